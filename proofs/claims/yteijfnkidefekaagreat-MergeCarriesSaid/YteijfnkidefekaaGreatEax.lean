/-
  Parts.
-/
import Derived.Test.YteijfnkidefekaaGreatEav
import Derived.Test.YteijfnkidefekaaGreatEaw
set_option linter.unusedVariables false
set_option linter.unusedSimpArgs false
set_option linter.unusedSectionVars false
set_option maxHeartbeats 60000000
set_option maxRecDepth 100000
namespace Go.Proofs.YteijfnkidefekaaGreat
open Tryz
section
open Go Go.RowKit Go.Shelf
theorem odd7_anyK11.zCase {P:Prop}(h:P:=by
 obtain⟨p,hp,mC⟩:∃p:Nat,Int.tmod (n:Int) 3=(p:Int)/\p<3:=⟨n % 3,by rw[Int.tmod_eq_emod_of_nonneg xM];omega,xM⟩;have vH:(n:Int) % 3=(p:Int):=by rw[<-hp,Int.tmod_eq_emod_of_nonneg xM]
 have pZ:(p:Int)<3:=xM;have tS:∀W Z,Blk W Z #[.int .i64 0,.int .i64 22,.int .i64 28] 3->∃x,W.cell? ⟨Z,p,none⟩=some (.int .i64 x)/\a0l x:=λW Z h=>by
  match p,mC with
  |0,_=>exact⟨_,h.cell 0,jM⟩
  |1,_=>exact⟨_,h.cell 1,jM⟩
  |2,_=>exact⟨_,h.cell 2,jM⟩
 obtain⟨cx,Qi,Ec⟩:∃cx,IntKind.i64.wrap (10*(n:Int))=cx/\a0l cx:=⟨_,rfl,a2a _⟩;have Ee:=hO.oe;have yh:=hO.of;clear ai z0 z2 z3 c0 c1 c2 c3 aC;go_upto_region 41 with fail;refine a0n (λWB IS=> ?_);have hB:=hO.b.box #[.int .i64 cx,.int .i64 90] 41;obtain⟨jB,tT⟩:=zE W9.heap.size;rw[<-IS,tT]at hB;rw[tT];clear IS tT hO hT fF fG;refine Go.wp_region_reln 21 zM zM (λ_ g W=>OY noB w g W [(jB,#[.int .i64 cx,.int .i64 90],41),(BQ,#[.int .i64 q0,.int .i64 q1,.int .i64 q2],119)] [(71,.slice (some ⟨eb,eo,none⟩) k gz,k),(43,.slice f10 nf vY,nf)]) (λg W g' W'=>Ev noB g W g' W') (FO7 w.heap.size jB n k p eb eo gz cx) (λ_ _ _ _ _ _ h g=>h.kept g) S9 hB.drew ?_ ?_
 ·intro i o hi ho c bb g W hc hM hA hD K hK
  match i,hi,ho with
  |0,_,ho =>
   cases ho;have f8:=a0a (v:= .slice (some ⟨eb,eo,none⟩) k gz) (hA.at_ (k:=8) zM);go_simp;exact hK (.slice (some ⟨eb,eo,none⟩) k gz) g W rfl (Ev.refl hM.tw) hM
  |1,_,ho =>
   exact yhc
  |2,_,ho =>
   cases ho;have f221:=a0a (v:= .int .i64 (n:Nat)) (a0e hD 1 221 zM rfl rfl);go_simp;exact hK _ g W ⟨_,rfl,zF⟩ (Ev.refl hM.tw) hM
  |3,_,ho =>
   exact ydr
  |4,_,ho =>
   exact ygb
  |5,_,ho =>
   cases ho;have f224:=a0a (v:= .pointer (some ⟨jB,0,none⟩)) (a0e hD 4 224 zM rfl rfl);exact yhp
  |6,_,ho =>
   cases ho;have f225:=a0a (v:= .int .i64 cx) (a0e hD 5 225 zM rfl rfl);go_simp;exact hK _ g W ⟨_,rfl,zF⟩ (Ev.refl hM.tw) hM
  |7,_,ho =>
   cases ho;have f226:=a0e hD 6 226 zM rfl rfl;obtain⟨Ef,Eh,Ei⟩:=f226;have f226:=a0a Eh;go_simp;exact hK _ g W ⟨Ef,rfl,Ei⟩ (Ev.refl hM.tw) hM
  |8,_,ho =>
   exact ygb
  |9,_,ho =>
   cases ho;have f228:=a0a (v:= .pointer (some ⟨jB,0,none⟩)) (a0e hD 8 228 zM rfl rfl);exact yhp
  |10,_,ho =>
   cases ho;have f229:=a0a (v:= .int .i64 cx) (a0e hD 9 229 zM rfl rfl);go_simp;exact hK (.agg #[.int .i64 cx,.int .i64 95]) g W rfl (Ev.refl hM.tw) hM
  |11,_,ho =>
   exact ydr
  |12,_,ho =>
   cases ho;have f223:=a0a (v:= .agg #[.int .i64 cx,.int .i64 90]) (a0e hD 3 223 zM rfl rfl);have f227:=a0e hD 7 227 zM rfl rfl;have f230:=a0a (v:= .agg #[.int .i64 cx,.int .i64 95]) (a0e hD 10 230 zM rfl rfl);have f231:=a0a (v:= .agg #[.int .i64 cx,.int .i64 90]) (a0e hD 11 231 zM rfl rfl);obtain⟨yj,Ej,Em⟩:=f227;have f227:=a0a Ej;have En:TB g W 41 #[.int .i64 cx,.int .i64 90,.int .i64 yj,.int .i64 90,.int .i64 cx,.int .i64 95,.int .i64 cx,.int .i64 90]:=b7d (λu hu=>(List.forall_mem_cons.2 ⟨⟨_,rfl,Ec⟩,List.forall_mem_cons.2 ⟨⟨_,rfl,jM⟩,List.forall_mem_cons.2 ⟨⟨_,rfl,Em⟩,List.forall_mem_cons.2 ⟨⟨_,rfl,jM⟩,List.forall_mem_cons.2 ⟨⟨_,rfl,Ec⟩,List.forall_mem_cons.2 ⟨⟨_,rfl,jM⟩,List.forall_mem_cons.2 ⟨⟨_,rfl,Ec⟩,List.forall_mem_cons.2 ⟨⟨_,rfl,jM⟩,λ_ h=>by simp at h⟩⟩⟩⟩⟩⟩⟩⟩:∀u∈[Value.int .i64 cx,.int .i64 90,.int .i64 yj,.int .i64 90,.int .i64 cx,.int .i64 95,.int .i64 cx,.int .i64 90],∃x,u= .int .i64 x/\a0l x) u hu);have hE:=Ev.alloc (X:=noB) hM.tw En;go_simp;exact hK (.slice (some ⟨W.heap.size,0,none⟩) 4 4) _ _ (SL.blk (.inr rfl) (Blk.new _ _ _) (by show 4*2<=8;omega)) hE (hM.evo hE ((zR _ _).alloc hM.size _))
  |13,_,ho =>
   cases ho;go_simp;have hb:Below W.heap.size W (W.alloc (.cells #[.int .i64 0,.int .i64 22,.int .i64 28] 3)):=(zR _ _).alloc (yR _) _;exact hK (.slice (some ⟨W.heap.size,0,none⟩) 3 3) g _ ⟨_,rfl,Blk.new _ _ _,λhs=>Nat.lt_irrefl _ (hM.tw.lt hs)⟩ (Ev.of_below hM.tw hb) (hM.up hb)
  |14,_,ho =>
   exact yhc
  |15,_,ho =>
   cases ho;have f234:=a0a (v:= .int .i64 (n:Nat)) (a0e hD 14 234 zM rfl rfl);go_simp;exact hK (.int .i64 (p:Nat)) g W rfl (Ev.refl hM.tw) hM
  |16,_,ho =>
   cases ho;have f233:=a0e hD 13 233 zM rfl rfl;have f235:=a0a (v:= .int .i64 (p:Nat)) (a0e hD 15 235 zM rfl rfl);obtain⟨Z,Eo,Ep,n233⟩:=f233;have f233:=a0a Eo;go_simp;exact hK _ g W ⟨Z,rfl,Ep,n233⟩ (Ev.refl hM.tw) hM
  |17,_,ho =>
   cases ho;have f236:=a0e hD 16 236 zM rfl rfl;obtain⟨Z,Er,Es,n236⟩:=f236;have f236:=a0a Er;obtain⟨xt,ct,ft⟩:=tS W Z Es;go_simp;exact hK _ g W ⟨_,rfl,ft⟩ (Ev.refl hM.tw) hM
  |18,_,ho =>
   cases ho;have f222:=a0e hD 2 222 zM rfl rfl;obtain⟨Mu,Eu,Ew⟩:=f222;have f222:=a0a Eu;have f232:=a0e hD 12 232 zM rfl rfl;have f237:=a0e hD 17 237 zM rfl rfl;obtain⟨Mw,Ex,Ey⟩:=f237;have f237:=a0a Ex;obtain⟨sv,yl⟩:=zE (bb.eval (.tmp 232));rw[yl]at f232;have h232:SL g W 41 sv 4:=f232;obtain⟨a1,c1,rfl,-⟩:=h232.form;have f232:=a0a yl;go_simp;exact hK _ g W ⟨_,_,_,rfl,Ew,Ey,h232⟩ (Ev.refl hM.tw) hM
  |19,_,ho =>
   cases ho;have f238:=a0e hD 18 238 zM rfl rfl;obtain⟨a,c,sv,Ez,ha,Mx,bj⟩:=f238;obtain⟨a1,c1,rfl,-⟩:=bj.form;have f238:=a0a Ez;have hE:=Ev.alloc (X:=noB) hM.tw (a8e (l:=21) ha jM Mx bj xM);go_simp;exact hK (.slice (some ⟨W.heap.size,0,none⟩) 1 1) _ _ (SL.blk (.inr rfl) (Blk.new _ _ _) (by show 1*4<=4;omega)) hE (hM.evo hE ((zR _ _).alloc hM.size _))
  |20,_,ho =>
   cases ho;have f220:=a0a (v:= .slice (some ⟨eb,eo,none⟩) k gz) (a0e hD 0 220 zM rfl rfl);have f239:=a0e hD 19 239 zM rfl rfl;exact hM.append_e _ _ 27 rfl underlying27 a1u (a4a f220) hM.s0 Ee rfl f239 xM (λv' S' w' h1 h2 h3=>hK v' S' w' ⟨h1.s0,h2⟩ h3 h1.tailT)
  |i+21,hi,_=>exact absurd hi xM
 ·intro bb g W hM hA aa
  obtain⟨h20,ym⟩:=(show SL g W 71 (bb.eval (.tmp 240)) (k+1)/\Own w.heap.size (bb.eval (.tmp 240))from aa 20 xM _ _ rfl rfl);obtain⟨va,iY⟩:=zE (bb.eval (.tmp 240));rw[iY]at h20 ym;have az:=hA.frame (rT 220 (rF 21 (rT 42 ([])))) _ rfl zM;clear aa hA;obtain⟨f,hf⟩:=zDt bb;have yq:f 240=va:=by rw[<-hf,<-iY];rfl
  rw[hf]at az;clear hf iY;subst az;simp only[rT,rF,a1j,yq,Nat.reduceAdd];clear yq;simp only[zU];go_wp2_with fail;go_meet;exact⟨g,k+1,nf,⟨((hM.tail).add h20).sub vM,ym,yh⟩,xM,xM⟩):P:=h
open odd7_anyK11 in
theorem b3h :a1m 11:=a1t
theorem odd7_anyK12.zCase {P:Prop}(h:P:=by
 have Ee:=hO.oe;have yh:=hO.of;have hb:=hO.b;clear ai z0 z2 z3 c0 c1 c2 c3 aC hO hT fF fG;go_wp2_with fail;go_loopw [16] (λkk wr=>∃i:Nat,i<=k/\kk= .int .i64 (i:Nat)/\OY noB w S9 wr [(BQ,#[.int .i64 q0,.int .i64 q1,.int .i64 q2],119)] [(71,.slice (some ⟨eb,eo,none⟩) k gz,k),(43,.slice f10 nf vY,nf)]) (λkk _=>k-(intOf kk).toNat)
 case atStart=>exact⟨0,Nat.zero_le _,rfl,hb⟩
 case round =>
  clear hb;obtain⟨i,hi,rfl,hb⟩:=hrel;by_cases ab:i<k
  ·have aj:(i:Int)<(k:Int):=xM
   have tB:IntKind.i64.wrap ((i:Int)+1)=((i+1:Nat):Int):=by rw[a0p xM xM];omega
   obtain⟨Eb,l',r',IQ,m',c0,c1,c2,c3,-,-,-,aC,dG⟩:=SL.edge hb.tw hb.s0 ab;obtain⟨IU,EA,rfl,My⟩:=aC.form;have hq:=hb.add aC;clear c0 c2 c3 hb aC;go_wp2_with fail;go_loopw [17] (λjj IV=>∃pj:Nat,pj<=m'/\jj= .int .i64 (pj:Nat)/\IV.cell? ⟨eb,eo+i*4+1,none⟩=some (.slice IU m' EA)/\OY noB w S9 IV [(BQ,#[.int .i64 q0,.int .i64 q1,.int .i64 q2],119)] [(41,.slice IU m' EA,m'),(71,.slice (some ⟨eb,eo,none⟩) k gz,k),(43,.slice f10 nf vY,nf)]) (λjj _=>m'-(intOf jj).toNat)
   case atStart=>exact⟨0,Nat.zero_le _,rfl,c1,hq⟩
   case round =>
    clear hq c1;obtain⟨pj,hp,rfl,c1,hq⟩:=hrel;by_cases bY:pj<m'
    ·have pZ:(pj:Int)<(m':Int):=xM
     have mF:IntKind.i64.wrap ((pj:Int)+1)=((pj+1:Nat):Int):=by rw[a0p xM xM];omega
     obtain⟨pb,po,pc,heq,AZ,-⟩:=hq.s0.some_ xM
     cases heq;obtain⟨x,y,d0,d1,fx,fy⟩:=SL.point hq.tw hq.s0 bY;have pB:=λv fv=>hq.store a1l hq.s0 (a4i hq.s0 hq.o.lows) pj 1 .int rfl (.int .i64 v) (CT.ok_int fv)
     have y1:wr.frozen? ⟨pb,po+pj*2+1,none⟩=false:=(pB 0 jM).2;obtain⟨ce,yr⟩:=hq.s1.blk_;obtain⟨cp,ql⟩:=hq.s0.blk_;have an:eb≠pb:=λe=>by
      subst e;unfold Blk at yr ql;rw[yr]at ql;simp only[Option.some.injEq,Obj.cells.injEq]at ql;exact absurd ql.2.1 jM
     have yt:∀v,(wr.setCell ⟨pb,po+pj*2+1,none⟩ v).cell? ⟨eb,eo+i*4+1,none⟩=some (.slice (some ⟨pb,po,none⟩) m' EA):=λv=>by
      rw[(yr.other an _ v).cell,<-yr.cell];exact c1
     clear yr ql an;obtain⟨z,hz⟩:=zE (IntKind.i64.wrap (1+IntKind.i64.wrap ((n:Int) % 2*39)));go_upto_region 49 with fail;first|with_reducible refine a0k 20 zM zM ?_|with_reducible refine a0m 20 zM zM ?_
     simp only[zT];repeat(first|go_big_quiet_step (fail)|quiet_step (fail))
     refine wpQuiet_nil ?_;intro _ bI;obtain⟨p,bI⟩:=bI;subst bI;go_wp2_with fail;refine⟨⟨pj+1,bY,rfl,(b5f (Go.below_growBy _ _) (yt _)),((pB _ (a1a _)).1.up (Go.below_growBy _ _))⟩,?_⟩;exact ygy
    ·have aT:((pj:Int)<(m':Int))=False:=by simp;omega
     go_wp2_with fail;refine⟨⟨i+1,ab,rfl,hq.tailT⟩,?_⟩;exact ygy
  ·have aT:((i:Int)<(k:Int))=False:=by simp;omega
   go_wp2_with fail;go_meet;exact⟨S9,k,nf,⟨hb,Ee,yh⟩,xM,xM⟩):P:=h
open odd7_anyK12 in
theorem b3i :a1m 12:=a1t
theorem c3x (U:BS)(w:Wd)(hT:TW U w)(ev fv:Vu)(ne nf:Nat)(fF:SL U w 71 ev ne)(fG:SL U w 43 fv nf)(an:ne<=1000)(bZ:nf<=1000)(q0 q1 q2:Int)(cN:a0l q0)(cH:a0l q1)(cI:a0l q2) :
 Calls prog 91 #[ev,fv,.agg #[.int .i64 q0,.int .i64 q1,.int .i64 q2]] w λe w'=>∃S' iH iI ne' nf',e= .returned (.tuple #[iH,iI])/\SL S' w' 71 iH ne'/\SL S' w' 43 iI nf'/\ne'<=ne+1/\nf'<=nf+1/\Ev noB noB w S' w':=by
 obtain⟨r,hr,ye⟩:∃n:Nat,q0 % 13=(n:Int)/\n<13:=⟨(q0 % 13).toNat,xM,xM⟩;match r,ye with
 |0,_=>exact b5g U w hT ev fv ne nf fF fG an bZ q0 q1 q2 cN cH cI hr
 |1,_=>exact b5h U w hT ev fv ne nf fF fG an bZ q0 q1 q2 cN cH cI hr
 |2,_=>exact b5i U w hT ev fv ne nf fF fG an bZ q0 q1 q2 cN cH cI hr
 |3,_=>exact b5j U w hT ev fv ne nf fF fG an bZ q0 q1 q2 cN cH cI hr
 |4,_=>exact b5k U w hT ev fv ne nf fF fG an bZ q0 q1 q2 cN cH cI hr
 |5,_=>exact b5l U w hT ev fv ne nf fF fG an bZ q0 q1 q2 cN cH cI hr
 |6,_=>exact b5m U w hT ev fv ne nf fF fG an bZ q0 q1 q2 cN cH cI hr
 |7,_=>exact b5n U w hT ev fv ne nf fF fG an bZ q0 q1 q2 cN cH cI hr
 |8,_=>exact b5o U w hT ev fv ne nf fF fG an bZ q0 q1 q2 cN cH cI hr
 |9,_=>exact b5p U w hT ev fv ne nf fF fG an bZ q0 q1 q2 cN cH cI hr
 |10,_=>exact b3g U w hT ev fv ne nf fF fG an bZ q0 q1 q2 cN cH cI hr
 |11,_=>exact b3h U w hT ev fv ne nf fF fG an bZ q0 q1 q2 cN cH cI hr
 |12,_=>exact b3i U w hT ev fv ne nf fF fG an bZ q0 q1 q2 cN cH cI hr
 |r+13,h=>omega
end
end Go.Proofs.YteijfnkidefekaaGreat
