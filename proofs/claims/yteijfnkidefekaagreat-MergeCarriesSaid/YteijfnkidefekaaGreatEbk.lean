/-
  Parts.
-/
import Derived.Test.YteijfnkidefekaaGreatEbj
set_option linter.unusedVariables false
set_option linter.unusedSimpArgs false
set_option linter.unusedSectionVars false
set_option maxHeartbeats 8000000
set_option maxRecDepth 100000
namespace Go.Proofs.YteijfnkidefekaaGreat
open Tryz
section
open Go Go.RowKit Go.Shelf Go.Lib Go.Maps
theorem c6g {P:Program}{c:Code}{Q Q':Exit->Act->World->Prop}{a:Act}{w:Wd}(h:c.wp P Q a w)(hq:∀e a w,Q e a w->Q' e a w):c.wp P Q' a w:=wp_mono h hq
theorem a4b (W:Wd)(B:Nat)(c0 c1 c2 c3 v0 v1 v2 v3:Vu){t:Td}(h:Blk W B #[c0,c1,c2,c3] t) :
 Blk ((((W.setCell ⟨B,0,none⟩ v0).setCell ⟨B,1,none⟩ v1).setCell ⟨B,2,none⟩ v2).setCell ⟨B,3,none⟩ v3) B #[v0,v1,v2,v3] t/\(∀k,k≠B->((((W.setCell ⟨B,0,none⟩ v0).setCell ⟨B,1,none⟩ v1).setCell ⟨B,2,none⟩ v2).setCell ⟨B,3,none⟩ v3).heap[k]? =W.heap[k]?) /\
  W.grownBy ((((W.setCell ⟨B,0,none⟩ v0).setCell ⟨B,1,none⟩ v1).setCell ⟨B,2,none⟩ v2).setCell ⟨B,3,none⟩ v3) (some B)/\((((W.setCell ⟨B,0,none⟩ v0).setCell ⟨B,1,none⟩ v1).setCell ⟨B,2,none⟩ v2).setCell ⟨B,3,none⟩ v3).heap.size=W.heap.size:=by
 refine⟨?_,λk hk=> ?_,?_,by unfold World.setCell;simp⟩
 ·have:=(((h.set 0 v0).set 1 v1).set 2 v2).set 3 v3
  exact this
 ·rw[Below.heap_setCell _ _ _ k hk,Below.heap_setCell _ _ _ k hk,Below.heap_setCell _ _ _ k hk,Below.heap_setCell _ _ _ k hk]
 ·exact(((a0d W B 0 v0).trans (a0d _ B 1 v1)).trans (a0d _ B 2 v2)).trans (a0d _ B 3 v3)
theorem b8z {en:List (Int×Tg)}(iN:List (Int×Tg))(h:(en.map (·.1)).Nodup):(c6p en iN).Nodup:=((a1g _).nodup_iff.2 h).filter _
def c8v (E E2:List Eg)(Fa F2:List Fc)(Y Y2:List Wq)(P P2:List Pc)(w:Wd)(e:Ending)(w':Wd):Prop :=
 Below w.heap.size w w' /\
  ((e= .returned (.tuple #[.slice none 0 0,.bool false])/\((ids (a1d E Fa Y P)).Nodup->(ids (a1d E2 F2 Y2 P2)).Nodup->∃a b,NormR (a1d E Fa Y P) a/\NormR (a1d E2 F2 Y2 P2) b/\a2c a b=false)) \/
   ∃v es a b R,e= .returned (.tuple #[v,.bool true])/\Lst etE w'.heap.size w' v es/\Frm v es.length/\(∀x∈es,Ln w'.heap.size w' x.w.sl x.w.line/\a0l x.w.id/\a0l x.p.id)/\(ids (a1d E Fa Y P)).Nodup/\(ids (a1d E2 F2 Y2 P2)).Nodup/\NormR (a1d E Fa Y P) a/\NormR (a1d E2 F2 Y2 P2) b/\a2c a b=true/\R.Nodup /\
    (∀i,i∈R↔(i∈a.w.map Wk.id/\i∉b.w.map Wk.id)\/(i∈a.p.map Pc.id/\i∉b.p.map Pc.id))/\es.map Et.key=a2m R a b)
theorem b7m (x0 x1 x2 x3 y0 y1 y2 y3:Option Addr)(c0 c1 c2 c3 d0 d1 d2 d3:Nat)(E E2:List Eg)(Fa F2:List Fc)(Y Y2:List Wq)(P P2:List Pc)(w:Wd)
 (qs:MapV w.heap.size w (.slice x0 E.length c0) (.slice x1 Fa.length c1) (.slice x2 Y.length c2) (.slice x3 P.length c3) E Fa Y P) (qt:MapV w.heap.size w (.slice y0 E2.length d0) (.slice y1 F2.length d1) (.slice y2 Y2.length d2) (.slice y3 P2.length d3) E2 F2 Y2 P2)
 (F3:(E2.map λx:Eg=>x.line.length).sum<=80000) :
 Calls prog 6 #[.agg #[.slice x0 E.length c0,.slice x1 Fa.length c1,.slice x2 Y.length c2,.slice x3 P.length c3],.agg #[.slice y0 E2.length d0,.slice y1 F2.length d1,.slice y2 Y2.length d2,.slice y3 P2.length d3]] w (c8v E E2 Fa F2 Y Y2 P P2 w):=by
 have hA:=λX hb=>a3p x0 x1 x2 x3 c0 c1 c2 c3 E Fa Y P X (qs.at_ hb)
 have hB:=λX hb=>a3p y0 y1 y2 y3 d0 d1 d2 d3 E2 F2 Y2 P2 X (qt.at_ hb)
 obtain⟨ra,qu⟩:=zE (decide (ids (a1d E Fa Y P)).Nodup);obtain⟨rb,lS⟩:=zE (decide (ids (a1d E2 F2 Y2 P2)).Nodup);rw[qu]at hA;rw[lS]at hB;replace qu:=Lib.hid qu;replace lS:=Lib.hid lS;have bE:Below w.heap.size w ((w.alloc (.cells #[.slice x0 E.length c0,.slice x1 Fa.length c1,.slice x2 Y.length c2,.slice x3 P.length c3] 32)).alloc (.cells #[.slice y0 E2.length d0,.slice y1 F2.length d1,.slice y2 Y2.length d2,.slice y3 P2.length d3] 32)):=by exact zC
 have k4:=(Blk.new w #[.slice x0 E.length c0,.slice x1 Fa.length c1,.slice x2 Y.length c2,.slice x3 P.length c3] 32).alloc (.cells #[.slice y0 E2.length d0,.slice y1 F2.length d1,.slice y2 Y2.length d2,.slice y3 P2.length d3] 32);have k3:=Blk.new (w.alloc (.cells #[.slice x0 E.length c0,.slice x1 Fa.length c1,.slice x2 Y.length c2,.slice x3 P.length c3] 32)) #[.slice y0 E2.length d0,.slice y1 F2.length d1,.slice y2 Y2.length d2,.slice y3 P2.length d3] 32;rw[World.size_alloc]at k3;refine(callsIn_wide (n:=3)).1 ?_;refine callsIn_of_wp_marks func6 rfl trivial ?_ rfl;simp only[ntmps6,List.size_toArray,List.length_cons,List.length_nil,Nat.reduceAdd,Nat.reduceSub,Array.replicate_succ,Array.replicate_zero,List.push_toArray,List.append_toArray,List.nil_append,List.cons_append];refine wpIn_wide.2 ?_;go_upto_region 3 with(first
  |(go_at_call 17;(with_reducible refine(hA _ bE).mono ?_);rintro e W1⟨mo,rfl,-,-,ah⟩
    replace k3:=k3.below ah k3.lt;replace k4:=k4.below ah k4.lt;replace ah:=bE.trans (ah.mono bE.size);obtain⟨p0,p1,p2,p3⟩:=zN4 k3)
  |(go_at_call 17;(with_reducible refine(hB _ ah).mono ?_);rintro e W2⟨mn,rfl,-,-,aq⟩
    replace k3:=k3.below aq k3.lt;replace k4:=k4.below aq k4.lt;replace aq:=ah.trans (aq.mono ah.size);clear p0 p1 p2 p3))
 cases ra
 ·go_wp2_with fail
  exact⟨_,results_tmp2 qM _ _ _,aq,.inl ⟨rfl,λh=>absurd h (of_decide_eq_false qu.out)⟩⟩
 ·cases rb
  ·go_wp2_with fail
   exact⟨_,results_tmp2 qM _ _ _,aq,.inl ⟨rfl,λ_ h=>absurd h (of_decide_eq_false lS.out)⟩⟩
  ·clear hA hB bE ah
   have zP:=of_decide_eq_true qu.out;have Jw:=of_decide_eq_true lS.out;clear qu lS;go_upto_region 5 with fail;have Gl:=λX hb=>a7x (.slice x0 E.length c0) (.slice x1 Fa.length c1) (.slice x2 Y.length c2) (.slice x3 P.length c3) E Fa Y P X (qs.at_ hb)
   have Gm:=λX hb=>a7x (.slice y0 E2.length d0) (.slice y1 F2.length d1) (.slice y2 Y2.length d2) (.slice y3 P2.length d3) E2 F2 Y2 P2 X (qt.at_ hb)
   have cJ:Below w.heap.size w W2.drew:=⟨aq.os,aq.tape,aq.output,aq.size,aq.block⟩;have Cp:Blk W2.drew (w.heap.size+1) _ _:=k3;have Cq:Blk W2.drew w.heap.size _ _:=k4;obtain⟨p0,p1,p2,p3⟩:=zN4 k3;obtain⟨q0,q1,q2,q3⟩:=zN4 k4;refine c6g (Q:=λe a' W5=>e= .normal/\∃a0 m0 a1 m1 a2 m2 a3 m3 E' F' Y' P' s0 l0 s1 l1 s2 l2 s3 l3 iS iT iU iV,a'=({ tmps:= #[.agg #[.slice x0 E.length c0,.slice x1 Fa.length c1,.slice x2 Y.length c2,.slice x3 P.length c3],.agg #[.slice y0 E2.length d0,.slice y1 F2.length d1,.slice y2 Y2.length d2,.slice y3 P2.length d3],.pointer (some ⟨w.heap.size,0,none⟩),.pointer (some ⟨w.heap.size+1,0,none⟩),.slice none 0 0,.bool false,.map (some mo),.bool true,.map (some mn),.bool true,undef,undef,.tuple #[.map (some mo),.bool true],.agg #[.slice x0 E.length c0,.slice x1 Fa.length c1,.slice x2 Y.length c2,.slice x3 P.length c3],.tuple #[.map (some mo),.bool true],.map (some mo),.bool true,.tuple #[.map (some mn),.bool true],.agg #[.slice y0 E2.length d0,.slice y1 F2.length d1,.slice y2 Y2.length d2,.slice y3 P2.length d3],.tuple #[.map (some mn),.bool true],.map (some mn),.bool true,.bool true,.bool false,.bool false,.bool true,.bool false,.bool false,.agg #[.slice x0 E.length c0,.slice x1 Fa.length c1,.slice x2 Y.length c2,.slice x3 P.length c3],.agg #[.slice a0 E'.length m0,.slice a1 F'.length m1,.slice a2 Y'.length m2,.slice a3 P'.length m3],.agg #[.slice y0 E2.length d0,.slice y1 F2.length d1,.slice y2 Y2.length d2,.slice y3 P2.length d3],.agg #[.slice s0 iS.length l0,.slice s1 iT.length l1,.slice s2 iU.length l2,.slice s3 iV.length l3],undef,undef,undef,undef,undef,undef,undef,undef,undef,undef,undef,undef,undef],defers:=[] }:Act)/\NormR (a1d E Fa Y P) (a1d E' F' Y' P')/\NormR (a1d E2 F2 Y2 P2) (a1d iS iT iU iV) /\
    MapV W5.heap.size W5 (.slice a0 E'.length m0) (.slice a1 F'.length m1) (.slice a2 Y'.length m2) (.slice a3 P'.length m3) E' F' Y' P'/\MapV W5.heap.size W5 (.slice s0 iS.length l0) (.slice s1 iT.length l1) (.slice s2 iU.length l2) (.slice s3 iV.length l3) iS iT iU iV /\
    Blk W5 w.heap.size #[.slice a0 E'.length m0,.slice a1 F'.length m1,.slice a2 Y'.length m2,.slice a3 P'.length m3] 32/\Blk W5 (w.heap.size+1) #[.slice s0 iS.length l0,.slice s1 iT.length l1,.slice s2 iU.length l2,.slice s3 iV.length l3] 32/\Below w.heap.size w W5) ?_ ?_
   ·go_region_with (first
     |(go_at_call 9;(with_reducible refine(Gl _ cJ).mono ?_);rintro e W3⟨a0,m0,a1,m1,a2,m2,a3,m3,E',F',Y',P',rfl,qD,sf,b9⟩
       have Cr:=Cp.below b9 Cp.lt;have Gn:=Cq.below b9 Cq.lt;replace b9:=cJ.trans (b9.mono cJ.size);obtain⟨r0,r1,r2,r3⟩:=zN4 Cr)
     |(go_at_call 9;(with_reducible refine(Gm _ b9).mono ?_);rintro e W4⟨s0,l0,s1,l1,s2,l2,s3,l3,iS,iT,iU,iV,rfl,zV,iW,bh⟩
       have sg:=Cr.below bh Cr.lt;have sh:=Gn.below bh Gn.lt;replace qD:=qD.up bh;replace bh:=b9.trans (bh.mono b9.size);have z0:=sh.frozen 0;have z1:=sh.frozen 1;have z2:=sh.frozen 2;have z3:=sh.frozen 3;have Oi:=sg.frozen 0;have Oj:=sg.frozen 1;have Ol:=sg.frozen 2;have Om:=sg.frozen 3;obtain⟨u0,u1,u2,u3⟩:=zN4 sg;obtain⟨v0,v1,v2,v3⟩:=zN4 sh))
    all_goals
     obtain⟨kA,oA,gA,zA⟩:=a4b W4 w.heap.size _ _ _ _ (.slice a0 E'.length m0) (.slice a1 F'.length m1) (.slice a2 Y'.length m2) (.slice a3 P'.length m3) sh;obtain⟨X,hX⟩:=zE ((((W4.setCell ⟨w.heap.size,0,none⟩ (.slice a0 E'.length m0)).setCell ⟨w.heap.size,1,none⟩ (.slice a1 F'.length m1)).setCell ⟨w.heap.size,2,none⟩ (.slice a2 Y'.length m2)).setCell ⟨w.heap.size,3,none⟩ (.slice a3 P'.length m3));rw[hX]at kA oA gA zA ⊢;have Jx:Blk X (w.heap.size+1) _ _:=(oA (w.heap.size+1) xM).trans sg;obtain⟨kB,oB,gB,zB⟩:=a4b X (w.heap.size+1) _ _ _ _ (.slice s0 iS.length l0) (.slice s1 iT.length l1) (.slice s2 iU.length l2) (.slice s3 iV.length l3) Jx;obtain⟨W5,bL⟩:=zE ((((X.setCell ⟨w.heap.size+1,0,none⟩ (.slice s0 iS.length l0)).setCell ⟨w.heap.size+1,1,none⟩ (.slice s1 iT.length l1)).setCell ⟨w.heap.size+1,2,none⟩ (.slice s2 iU.length l2)).setCell ⟨w.heap.size+1,3,none⟩ (.slice s3 iV.length l3));rw[bL]at kB oB gB zB ⊢;replace kA:Blk W5 w.heap.size _ _:=(oB w.heap.size xM).trans kA;have aG:∀k,¬(k=w.heap.size\/k=w.heap.size+1)->W5.heap[k]? =W4.heap[k]? :=λk hk=>(oB k (λe=>hk (.inr e))).trans (oA k (λe=>hk (.inl e)))
     have Gp:∀B,(B=w.heap.size\/B=w.heap.size+1)->∀i u,W4.cell? ⟨B,i,none⟩=some u->∃a k c,u= .slice a k c:=λB h=>h.elim (λe=>e▸a1w sh) (λe=>e▸a1w sg)
     have On:=bh.size;have wA:=(qD.off Gp aG).mono (show W4.heap.size<=W5.heap.size by omega);have wB:=(zV.off Gp aG).mono (show W4.heap.size<=W5.heap.size by omega);have aI:Below w.heap.size w W5:=(bh.grown gA bh.size (λr e=>by cases e;omega)).grown gB xM (λr e=>by cases e;omega);clear hX bL oA gA oB gB sh sg Cr Gn Jx Cp Cq z0 z1 z2 z3 Oi Oj Ol Om u0 u1 u2 u3 v0 v1 v2 v3 r0 r1 r2 r3 p0 p1 p2 p3 q0 q1 q2 q3 Gl Gm b9 cJ aG Gp k3 k4 qs qt qD zV;exact⟨rfl,a0,m0,a1,m1,a2,m2,a3,m3,E',F',Y',P',s0,l0,s1,l1,s2,l2,s3,l3,iS,iT,iU,iV,rfl,sf,iW,wA,wB,kA,kB,aI⟩
   ·rintro e a' W5⟨rfl,a0,m0,a1,m1,a2,m2,a3,m3,E',F',Y',P',s0,l0,s1,l1,s2,l2,s3,l3,iS,iT,iU,iV,rfl,sf,iW,wA,wB,kA,kB,aI⟩
    clear Gl Gm cJ Cp Cq p0 p1 p2 p3 q0 q1 q2 q3 k3 k4 qs qt;obtain⟨u0,u1,u2,u3⟩:=zN4 kB;obtain⟨v0,v1,v2,v3⟩:=zN4 kA;have Cs:=b8l _ _ _ _ _ _ _ _ E' iS F' iT Y' iU P' iV W5 wA wB;obtain⟨rf,wC⟩:=zE (a2c (a1d E' F' Y' P') (a1d iS iT iU iV));rw[wC]at Cs;replace wC:=Lib.hid wC
    cases rf
    ·go_wp2_with (first
      |(go_at_call 18;(with_reducible refine Cs.mono ?_);rintro e W6⟨rfl,bC⟩))
     exact⟨_,results_tmp2 qM _ _ _,aI.trans (bC.mono aI.size),.inl ⟨rfl,λ_ _=>⟨_,_,sf,iW,wC.out⟩⟩⟩
    ·have FR:=c6d iW.e.1
     have zW:=λX (hb:Below W5.heap.size W5 X)=>c1y a0 a1 a2 a3 s0 s1 s2 s3 m0 m1 m2 m3 l0 l1 l2 l3 E' iS F' iT Y' iU P' iV X (wA.at_ hb) (wB.at_ hb)
     go_wp2_with (first
      |(go_at_call 18;(with_reducible refine Cs.mono ?_);rintro e W6⟨rfl,bC⟩
        clear u0 u1 u2 u3 v0 v1 v2 v3;have Jy:=kA.below bC kA.lt;have Jz:=kB.below bC kB.lt;obtain⟨u0,u1,u2,u3⟩:=zN4 Jz;obtain⟨v0,v1,v2,v3⟩:=zN4 Jy;have h7:=bC.alloc bC.size (.cells #[.slice none 0 0] 37))
      |(go_at_call 19;(with_reducible refine(zW _ h7).mono ?_);rintro e W8⟨B1,B2,B3,B4,Oo,Oq,e1,e2,rfl,j1,j2,j3,j4,aT,bR,ij,iD⟩))
     clear u0 u1 u2 u3 v0 v1 v2 v3 zW Cs kA kB Jy Jz;rw[World.size_alloc]at aT iD;have uB:=bC.size;have uC:=iD.size;rw[World.size_alloc]at uC;have kL:Blk W8 W6.heap.size #[.slice none 0 0] 37:=(Blk.new W6 _ _).below iD xM;have uD:Below W5.heap.size W5 W8:=h7.trans (iD.mono xM);have qE:Below w.heap.size w W8:=aI.trans (uD.mono aI.size);have ou:=aI.size;obtain⟨Bo,Ot⟩:=zE W6.heap.size;rw[Ot]at kL aT iD uB uC ⊢;have si:MapV Bo W8 _ _ _ _ E' F' Y' P':=(wA.below uD).mono xM;have JA:MapV Bo W8 _ _ _ _ iS iT iU iV:=(wB.below uD).mono xM;obtain⟨fe,ff,fl,fi⟩:=b5u wC.out;obtain⟨Ou,JB,Ov,Ow,-⟩:=a4n (sf.plain.1 zP);have de:=c4h 2 xM Bo Bo B1 B2 B3 B4 Oo Oq e1 e2 _ _ a0 a1 a2 a3 s0 s1 s2 s3 m0 m1 m2 m3 l0 l1 l2 l3 E' iS F' iT Y' iU P' iV W8 (kL.cell 0) (j1.cell 0) (j2.cell 0) ⟨j3.cell 0,j3.cell 1,j3.cell 2,j3.cell 3⟩ ⟨j4.cell 0,j4.cell 1,j4.cell 2,j4.cell 3⟩ xM bR ij
      (by have:=b8v a0 a1 a2 a3 E' F' Y' P';have q1:=si.ne;have q2:=si.nf;have q3:=si.nw;have q4:=si.np;omega) si JA xM (yR _) xM fe ff fl (b3w JB fi) (λx _=>c6c si (sf.plain.1 zP) x) (λx _=>c1x si (sf.plain.1 zP) x)
     have hR:=λi=>c4f (x0:=a0) (x1:=a1) (x2:=a2) (x3:=a3) (y0:=s0) (y1:=s1) (y2:=s2) (y3:=s3) (sf.plain.1 zP) (iW.plain.1 Jw) i
     have Ct:=b8z (a1e (a1z s0 s1 s2 s3 iS iT iU iV) []) bR.nodup;obtain⟨R,JC⟩:=zE (c6p (a1e (a1z a0 a1 a2 a3 E' F' Y' P') []) (a1e (a1z s0 s1 s2 s3 iS iT iU iV) []));rw[JC]at de hR Ct;have qF:EI Bo Bo W8 [] W8:=⟨⟨_,kL,⟨rfl,.inl ⟨rfl,rfl⟩⟩⟩,λx hx=>(by cases hx),λx hx=>(by cases hx),zR _ _⟩;clear bR ij j1 j2 j3 j4 aT si JA Ou JB Ov Ow fe ff fl fi FR wA wB JC;refine(wpIn_wide (n:=3)).1 (a5y (α:=Et) 39 11 (λx=>etV x) rfl xM rfl trivial (enters_of func50 zM rfl) (λW l k o o' h1 h2 h3=>b7g Bo W l k o o' h1 (a2o h2) (a2o h3)) (λW l o h1 h2=>b1m Bo W l o h1 (a2o h2)) (λW k o h1 h2=>b8s Bo W k o h1 (a2o h2)) (λk=>a8s) (n0:=Bo) (show Bo<=W8.heap.size by omega) (Kx:=KxE Bo) (λpre x W l o o' h1 h2 h3=>KxE.put h1 h2 h3) (S:=λxs=>xs.map Et.key=a2m R (a1d E' F' Y' P') (a1d iS iT iU iV)/\xs.length<=100000) (N:=100000) (w0:=W8) de (zR _ _)
      (λpre W=>EI Bo Bo W8 pre W) (λpre A A' row h hg hr=>h.turn xM (show Bo<=W8.heap.size by omega) hg hr) (λpre A A' row k h hg hr hc=>h.mine hg hr hc) qF (λ_ _=>False) (λ_ _ h=>h.elim) 50 (λx=>etA x) (λpre x W o h=>h.alloc o) (λpre W k h hc=>a8s hc) ?assign ?body (λ_ _ _ _ h=>h.elim) ?done)
     case assign =>
      clear de qF;intro l pre x W K hx hK;clear hx;replace hK:=Lib.hid hK;gi_wp2_with (first
       |(refine b8y qM _ _ qM qM x qM ?_))
      exact hK.out _ (by first|rfl|simp)
     case body =>
      clear de qF;intro ly pre x W B Gq Cf hB Ox Oy ab;obtain⟨v,kO,ag⟩:=Gq.out;obtain⟨va,vc,rfl,-⟩:=(a0g etOk ag xM).form;have o0:W.cell? ⟨Bo,0,none⟩=some (.slice va pre.length vc):=kO.cell 0;have o9:=c4g etOk W x;have hA1:Below W.heap.size W (W.alloc (.cells (etE.enc x).toArray etE.t)):=(zR _ _).alloc (yR _) _;have uf:=ag.alloc (.cells (etE.enc x).toArray etE.t);have bq:(.cells (etE.enc x).toArray etE.t:Obj)= .cells (etA x) 50:=rfl;rw[bq]at o9 hA1 uf;have aH:=Gq.bel.size;have bn:(W.alloc (.cells (etA x) 50)).heap.size=W.heap.size+1:=by simp
      clear bq;gi_wp2_with (first
       |(refine c2a qM _ qM B qM x hB _ rfl ?_)
       |(refine b8x qM _ qM x qM ?_
         obtain⟨W1,ao⟩:=zE (W.alloc (.cells (etA x) 50));rw[ao]at o9 hA1 uf bn ⊢;clear ao)
       |(gi_at_builtin;refine El.allInN etOk d0b qM _ _ qM Bo qM pre uf [x] qM o9 (.inr ⟨_,_,_,rfl⟩) (by simp only[List.length_cons,List.length_nil];omega) xM (λ_ _=>trivial) ?_;intro v9 w9 bG aU eS uz
         obtain⟨k9,Oz,sE⟩:=Gq.push xM (yR _) Cf kO ag hA1 bG aU uz;obtain⟨a9,n9,c9,rfl⟩:∃a n c,v9= .slice a n c:=by
          obtain⟨a,c,h,-⟩:=(a0g etOk bG uM).form;exact⟨_,_,_,h⟩
         have q0:w9.cell? ⟨Bo,0,none⟩=some (.slice va pre.length vc):=k9.cell 0;have z0:=k9.frozen 0;clear bG aU eS uz))
     case done =>
      rintro D xs W hD⟨hS,JD⟩ Cu hK;obtain⟨v,kO,ag⟩:=Cu.out;have hl:=a0g etOk ag xM;obtain⟨va,vc,rfl,-⟩:=hl.form;have QV:W.cell? ⟨Bo,0,none⟩=some (.slice va xs.length vc):=kO.cell 0;clear de qF hl;go_wp2_with fail;have dL:=grownBy_putObj' W D (.deferred none);have gI:Below w.heap.size w W:=qE.trans (Cu.bel.mono xM);have Gr:∀r,some D=some r->∃o,W.heap[r]? =some o/\a9c o=true:=λr e=>by
       cases e;exact⟨_,hK,rfl⟩
      have sj:=ag.kept dL (by
       cases ho:(Value.slice va xs.length vc).ownBlock with
       |none=>exact .inl rfl
       |some g =>
        refine .inr λe=> ?_
        simp only[Option.some.injEq]at e;subst e;rcases ag.2 with⟨e1,-⟩|⟨g',bk,cur,e1,-,h4,-⟩
        ·rw[e1]at ho;cases ho
        ·rw[e1]at ho
         cases ho;rw[hK]at h4
         cases h4)
      refine⟨by simp,.inl ⟨_,_,rfl,run_takeDeferred hK,?_⟩⟩;refine⟨_,results_tmp2 qM _ _ _,gI.grown dL gI.size (λr e=>by cases e;omega),.inr ⟨_,xs,_,_,R,rfl,a0g etOk sj xM,a0o sj,λx hx=>⟨(Cu.ln x hx).1.recd (yR _) dL Gr,(Cu.ln x hx).2⟩,zP,Jw,sf,iW,wC.out,Ct,hR,hS⟩⟩
end
end Go.Proofs.YteijfnkidefekaaGreat
