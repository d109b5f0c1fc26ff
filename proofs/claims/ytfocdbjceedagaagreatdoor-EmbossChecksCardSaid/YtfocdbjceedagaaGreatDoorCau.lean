/-
  Parts.
-/
import Derived.Test.YtfocdbjceedagaaGreatDoorCas
set_option linter.unusedVariables false
set_option linter.unusedSimpArgs false
set_option maxHeartbeats 60000000
set_option maxRecDepth 100000
namespace Go.Proofs.YtfocdbjceedagaaGreatDoor
open Tryz
section
open Go Go.RowKit Go.Shelf
theorem odd7_anyK6.zCase {P:Prop}(h:P:=by
 obtain⟨p,hp,mz⟩:∃p:Nat,min (n:Int) (m:Int)=(p:Int)/\p<=m:=⟨min n m,oM,oM⟩;have pG:min n m=p:=oM;have jS:(p:Int)<=(lc:Int):=oM;have hX:=(au 1 (.sl 26) rfl (.slice la p lc) (CT.ok_sl (aJ.take mz) oM)).1;have z1:W9.frozen? ⟨eb,eo+j*4+1,none⟩=false:=(au 1 (.sl 26) rfl (.slice la p lc) (CT.ok_sl (aJ.take mz) oM)).2;go_upto_region 30 with fail;clear au hT iu iw hk ag iB ru;first|with_reducible refine a0h 13 zM zM ?_|with_reducible refine a0i 13 zM zM ?_
 simp only[zT];repeat(first|go_big_quiet_step (fail)|quiet_step (fail))
 refine wpQuiet_nil ?_;intro _ bh;obtain⟨p,bh⟩:=bh;subst bh;go_wp2_with fail;go_meet;exact⟨S9,k,nf,⟨hX.up (Go.below_growBy _ _),hO.oe,hO.of⟩,oM,oM⟩):P:=h
open odd7_anyK6 in
theorem c4k :a2a 6:=a2f
theorem odd7_anyK7.zCase {P:Prop}(h:P:=by
 have gC:IntKind.i64.wrap ((j:Int)+1)=(j:Int)+1:=a0j oM oM;have ot:(j:Int)+1<=(k:Int):=oM;have Ao:((j:Int)+1).toNat=j+1:=oM;have D8:(j:Int)<=(je:Int):=oM;go_upto_region 32 with fail;clear au hT iu iw hk ag iB ru;refine zR4 λp=> ?_
 have eR:=hO.b.up (Go.below_growBy W9 p);refine eR.append_l (n:=j) (m:=k-(j+1)) qM _ _ 32 qM underlying32 a2g qM (eR.s0.take oM) (hO.oe.slice j) qM ?hx oM ?_
 case hx =>
  go_simp;by_cases h9:je=j+1
  ·rw[if_pos h9]
   exact SL.drop rfl eR.s0 oM (.inr ⟨h9.symm,rfl⟩)
  ·rw[if_neg h9]
   exact SL.drop rfl eR.s0 oM (.inl rfl)
 intro e9 S' W' oW bW;go_wp2_with fail
 all_goals (go_meet;exact⟨S',j+(k-(j+1)),nf,⟨oW.sub vM,bW,hO.of⟩,oM,oM⟩)):P:=h
open odd7_anyK7 in
theorem c4l :a2a 7:=a2f
theorem odd7_anyK8.zCase {P:Prop}(h:P:=by
 have bC:∀X W',Ev noB S9 W9 X W'->OY noB w X W' _ _:=λX W' h=>hO.b.evo h (h.below hO.b.o.lows (λ_ h=>h.elim) hO.b.size)
 go_wp2_with (first
  |(go_at_call 137;(with_reducible refine(b5q S9 W9 hO.b.tw id ll rr _ m aJ hm f0 f2 f3).mono ?_);rintro e WT⟨ST,tv,rfl,xT,Jq⟩;obtain⟨ta,tc,rfl,PG⟩:=xT.form;have ry:=(bC _ _ Jq).add xT;have x0:=(ry.store a2g ry.s1 hO.oe j 0 .int rfl (.int .i64 id) (CT.ok_int f0));have x1:=(x0.1.store a2g x0.1.s1 hO.oe j 1 (.sl 26) rfl (.slice ta m tc) (CT.ok_sl x0.1.s0 hm));have x2:=(x1.1.store a2g x1.1.s1 hO.oe j 2 .int rfl (.int .i64 rr) (CT.ok_int f3));have x3:=(x2.1.store a2g x2.1.s1 hO.oe j 3 .int rfl (.int .i64 ll) (CT.ok_int f2));obtain⟨HN,l',r',HP,m',b0,b1,b2,b3,-⟩:=SL.edge ry.tw ry.s1 nY;have u0:WT.frozen? ⟨eb,eo+j*4,none⟩=false:=x0.2;have u1:=(ry.store a2g ry.s1 hO.oe j 1 (.sl 26) rfl (.slice ta m tc) (CT.ok_sl ry.s0 hm)).2;have u2:=(ry.store a2g ry.s1 hO.oe j 2 .int rfl (.int .i64 rr) (CT.ok_int f3)).2;have u3:=(ry.store a2g ry.s1 hO.oe j 3 .int rfl (.int .i64 ll) (CT.ok_int f2)).2))
 go_meet;exact⟨ST,k,nf,⟨x3.1.tailT,hO.oe,hO.of⟩,oM,oM⟩):P:=h
open odd7_anyK8 in
theorem c4m :a2a 8:=a2f
theorem odd7_anyK9.zCase {P:Prop}(h:P:=by
 obtain⟨p,hp,mz⟩:∃p:Nat,min ((n:Int) % 4) (nf:Int)=(p:Int)/\p<=nf:=⟨min (n % 4) nf,oM,oM⟩;have jS:(p:Int)<=(AO:Int):=oM;have uj:=hO.b.s1.take mz;go_wp2_with fail;go_meet;exact⟨S9,k,p,⟨((hO.b.add uj).sub vM),hO.oe,hO.of.slice _⟩,oM,oM⟩):P:=h
open odd7_anyK9 in
theorem c4n :a2a 9:=a2f
theorem odd7_anyK10.zCase {P:Prop}(h:P:=by
 have aE:IntKind.i64.wrap ((n:Int)-1)=(n:Int)-1:=a0j oM oM;obtain⟨HS,x8⟩:=zE W9.heap.size;go_wp2_with (first
  |(at_builtin;refine hO.b.append_n qM _ _ 33 qM underlying33 a1v qM hO.b.s1 hO.of qM x8 (c5s (id:=(n:Int)-1) ⟨oM,oM⟩) rfl oM ?_;intro e9 S' W' oW bW))
 go_meet;exact⟨S',k,nf+1,⟨oW.sub vM,hO.oe,bW⟩,oM,oM⟩):P:=h
open odd7_anyK10 in
theorem c0s :a2a 10:=a2f
theorem odd7_anyK11.zCase {P:Prop}(h:P:=by
 obtain⟨p,hp,ph⟩:∃p:Nat,Int.tmod (n:Int) 3=(p:Int)/\p<3:=⟨n % 3,by rw[Int.tmod_eq_emod_of_nonneg oM];omega,oM⟩;have i7:(n:Int) % 3=(p:Int):=by rw[<-hp,Int.tmod_eq_emod_of_nonneg oM]
 have jS:(p:Int)<3:=oM;have iS:∀W Z,Blk W Z #[.int .i64 0,.int .i64 22,.int .i64 28] 3->∃x,W.cell? ⟨Z,p,none⟩=some (.int .i64 x)/\fits x:=λW Z h=>by
  match p,ph with
  |0,_=>exact⟨_,h.cell 0,jM⟩
  |1,_=>exact⟨_,h.cell 1,jM⟩
  |2,_=>exact⟨_,h.cell 2,jM⟩
 obtain⟨cx,UQ,Jr⟩:∃cx,IntKind.i64.wrap (10*(n:Int))=cx/\fits cx:=⟨_,rfl,a2o _⟩;have Js:=hO.oe;have cN:=hO.of;clear au z0 z2 z3 c0 c1 c2 c3 aJ;go_upto_region 41 with fail;refine a0m (λWB MV=> ?_);have hB:=hO.b.box #[.int .i64 cx,.int .i64 90] 26;obtain⟨gy,oX⟩:=zE W9.heap.size;rw[<-MV,oX]at hB;rw[oX];clear MV oX hO hT iu iw;refine Go.wp_region_reln 21 zM zM (λ_ g W=>OY noB w g W [(gy,#[.int .i64 cx,.int .i64 90],26),(BQ,#[.int .i64 q0,.int .i64 q1,.int .i64 q2],23)] [(206,.slice (some ⟨eb,eo,none⟩) k je,k),(140,.slice f10 nf AO,nf)]) (λg W g' W'=>Ev noB g W g' W') (FO7 w.heap.size gy n k p eb eo je cx) (λ_ _ _ _ _ _ h g=>h.kept g) S9 hB.drew ?_ ?_
 ·intro i o hi ho c bb g W hc hM hA hD K hK
  match i,hi,ho with
  |0,_,ho =>
   cases ho;have f8:=a0a (v:= .slice (some ⟨eb,eo,none⟩) k je) (hA.at_ (k:=8) zM);go_simp;exact hK (.slice (some ⟨eb,eo,none⟩) k je) g W rfl (Ev.refl hM.tw) hM
  |1,_,ho =>
   exact yhs
  |2,_,ho =>
   cases ho;have f221:=a0a (v:= .int .i64 (n:Nat)) (a0f hD 1 221 zM rfl rfl);go_simp;exact hK _ g W ⟨_,rfl,zF⟩ (Ev.refl hM.tw) hM
  |3,_,ho =>
   exact ydt
  |4,_,ho =>
   exact ygg
  |5,_,ho =>
   cases ho;have f224:=a0a (v:= .pointer (some ⟨gy,0,none⟩)) (a0f hD 4 224 zM rfl rfl);exact yih
  |6,_,ho =>
   cases ho;have f225:=a0a (v:= .int .i64 cx) (a0f hD 5 225 zM rfl rfl);go_simp;exact hK _ g W ⟨_,rfl,zF⟩ (Ev.refl hM.tw) hM
  |7,_,ho =>
   cases ho;have f226:=a0f hD 6 226 zM rfl rfl;obtain⟨Jt,Ju,Jv⟩:=f226;have f226:=a0a Ju;go_simp;exact hK _ g W ⟨Jt,rfl,Jv⟩ (Ev.refl hM.tw) hM
  |8,_,ho =>
   exact ygg
  |9,_,ho =>
   cases ho;have f228:=a0a (v:= .pointer (some ⟨gy,0,none⟩)) (a0f hD 8 228 zM rfl rfl);exact yih
  |10,_,ho =>
   cases ho;have f229:=a0a (v:= .int .i64 cx) (a0f hD 9 229 zM rfl rfl);go_simp;exact hK (.agg #[.int .i64 cx,.int .i64 95]) g W rfl (Ev.refl hM.tw) hM
  |11,_,ho =>
   exact ydt
  |12,_,ho =>
   cases ho;have f223:=a0a (v:= .agg #[.int .i64 cx,.int .i64 90]) (a0f hD 3 223 zM rfl rfl);have f227:=a0f hD 7 227 zM rfl rfl;have f230:=a0a (v:= .agg #[.int .i64 cx,.int .i64 95]) (a0f hD 10 230 zM rfl rfl);have f231:=a0a (v:= .agg #[.int .i64 cx,.int .i64 90]) (a0f hD 11 231 zM rfl rfl);obtain⟨D9,Jw,Jy⟩:=f227;have f227:=a0a Jw;have Jz:TB g W 26 #[.int .i64 cx,.int .i64 90,.int .i64 D9,.int .i64 90,.int .i64 cx,.int .i64 95,.int .i64 cx,.int .i64 90]:=c5r (λu hu=>(List.forall_mem_cons.2 ⟨⟨_,rfl,Jr⟩,List.forall_mem_cons.2 ⟨⟨_,rfl,jM⟩,List.forall_mem_cons.2 ⟨⟨_,rfl,Jy⟩,List.forall_mem_cons.2 ⟨⟨_,rfl,jM⟩,List.forall_mem_cons.2 ⟨⟨_,rfl,Jr⟩,List.forall_mem_cons.2 ⟨⟨_,rfl,jM⟩,List.forall_mem_cons.2 ⟨⟨_,rfl,Jr⟩,List.forall_mem_cons.2 ⟨⟨_,rfl,jM⟩,λ_ h=>by simp at h⟩⟩⟩⟩⟩⟩⟩⟩:∀u∈[Value.int .i64 cx,.int .i64 90,.int .i64 D9,.int .i64 90,.int .i64 cx,.int .i64 95,.int .i64 cx,.int .i64 90],∃x,u= .int .i64 x/\fits x) u hu);have hE:=Ev.alloc (X:=noB) hM.tw Jz;go_simp;exact hK (.slice (some ⟨W.heap.size,0,none⟩) 4 4) _ _ (SL.blk (.inr rfl) (Blk.new _ _ _) (by show 4*2<=8;omega)) hE (hM.evo hE ((zR _ _).alloc hM.size _))
  |13,_,ho =>
   cases ho;go_simp;have hb:Below W.heap.size W (W.alloc (.cells #[.int .i64 0,.int .i64 22,.int .i64 28] 3)):=(zR _ _).alloc (yR _) _;exact hK (.slice (some ⟨W.heap.size,0,none⟩) 3 3) g _ ⟨_,rfl,Blk.new _ _ _,λhs=>Nat.lt_irrefl _ (hM.tw.lt hs)⟩ (Ev.of_below hM.tw hb) (hM.up hb)
  |14,_,ho =>
   exact yhs
  |15,_,ho =>
   cases ho;have f234:=a0a (v:= .int .i64 (n:Nat)) (a0f hD 14 234 zM rfl rfl);go_simp;exact hK (.int .i64 (p:Nat)) g W rfl (Ev.refl hM.tw) hM
  |16,_,ho =>
   cases ho;have f233:=a0f hD 13 233 zM rfl rfl;have f235:=a0a (v:= .int .i64 (p:Nat)) (a0f hD 15 235 zM rfl rfl);obtain⟨Z,JA,JB,n233⟩:=f233;have f233:=a0a JA;go_simp;exact hK _ g W ⟨Z,rfl,JB,n233⟩ (Ev.refl hM.tw) hM
  |17,_,ho =>
   cases ho;have f236:=a0f hD 16 236 zM rfl rfl;obtain⟨Z,JC,JD,n236⟩:=f236;have f236:=a0a JC;obtain⟨xt,ct,ft⟩:=iS W Z JD;go_simp;exact hK _ g W ⟨_,rfl,ft⟩ (Ev.refl hM.tw) hM
  |18,_,ho =>
   cases ho;have f222:=a0f hD 2 222 zM rfl rfl;obtain⟨Q8,JE,JF⟩:=f222;have f222:=a0a JE;have f232:=a0f hD 12 232 zM rfl rfl;have f237:=a0f hD 17 237 zM rfl rfl;obtain⟨Q9,JG,JH⟩:=f237;have f237:=a0a JG;obtain⟨sv,Ea⟩:=zE (bb.eval (.tmp 232));rw[Ea]at f232;have h232:SL g W 26 sv 4:=f232;obtain⟨a1,c1,rfl,-⟩:=h232.form;have f232:=a0a Ea;go_simp;exact hK _ g W ⟨_,_,_,rfl,JF,JH,h232⟩ (Ev.refl hM.tw) hM
  |19,_,ho =>
   cases ho;have f238:=a0f hD 18 238 zM rfl rfl;obtain⟨a,c,sv,JI,ha,Ra,bH⟩:=f238;obtain⟨a1,c1,rfl,-⟩:=bH.form;have f238:=a0a JI;have hE:=Ev.alloc (X:=noB) hM.tw (b3i (l:=21) ha jM Ra bH oM);go_simp;exact hK (.slice (some ⟨W.heap.size,0,none⟩) 1 1) _ _ (SL.blk (.inr rfl) (Blk.new _ _ _) (by show 1*4<=4;omega)) hE (hM.evo hE ((zR _ _).alloc hM.size _))
  |20,_,ho =>
   cases ho;have f220:=a0a (v:= .slice (some ⟨eb,eo,none⟩) k je) (a0f hD 0 220 zM rfl rfl);have f239:=a0f hD 19 239 zM rfl rfl;exact hM.append_e _ _ 32 rfl underlying32 a2g (b3m f220) hM.s0 Js rfl f239 oM (λv' S' w' h1 h2 h3=>hK v' S' w' ⟨h1.s0,h2⟩ h3 h1.tailT)
  |i+21,hi,_=>exact absurd hi oM
 ·intro bb g W hM hA ah
  obtain⟨h20,Eb⟩:=(show SL g W 206 (bb.eval (.tmp 240)) (k+1)/\Own w.heap.size (bb.eval (.tmp 240))from ah 20 oM _ _ rfl rfl);obtain⟨va,mm⟩:=zE (bb.eval (.tmp 240));rw[mm]at h20 Eb;have aC:=hA.frame (rT 220 (rF 21 (rT 42 ([])))) _ rfl zM;clear ah hA;obtain⟨f,hf⟩:=zDt bb;have Ec:f 240=va:=by rw[<-hf,<-mm];rfl
  rw[hf]at aC;clear hf mm;subst aC;simp only[rT,rF,a2d,Ec,Nat.reduceAdd];clear Ec;simp only[zU];go_wp2_with fail;go_meet;exact⟨g,k+1,nf,⟨((hM.tail).add h20).sub vM,Eb,cN⟩,oM,oM⟩):P:=h
open odd7_anyK11 in
theorem c0t :a2a 11:=a2f
end
end Go.Proofs.YtfocdbjceedagaaGreatDoor
