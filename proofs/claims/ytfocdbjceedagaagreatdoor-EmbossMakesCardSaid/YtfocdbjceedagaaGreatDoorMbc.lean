/-
  Parts.
-/
import Derived.Test.YtfocdbjceedagaaGreatDoorMbb
set_option linter.unusedVariables false
set_option linter.unusedSimpArgs false
set_option maxHeartbeats 60000000
set_option maxRecDepth 100000
namespace Go.Proofs.YtfocdbjceedagaaGreatDoor
open Tryz
section
open Go Go.RowKit Go.Shelf
attribute [local go_sem] Oper.semAt_some
attribute [local go_sem ↓] Go.wp_at_zero Go.wp_at_succ
theorem odd7_anyK7.zCase {P:Prop}(h:P:=by
 have hj1:IntKind.i64.wrap ((j:Int)+1)=(j:Int)+1:=a0k oM oM;have hj2:(j:Int)+1<=(k:Int):=oM;have hj3:((j:Int)+1).toNat=j+1:=oM;have hj4:(j:Int)<=(e1c:Int):=oM;go_upto_region 32 with fail;clear hst hT hve hvf hk hlt hk0 hk0b;first|with_reducible refine a0f 7 zM zM ?_|with_reducible refine a0i 7 zM zM ?_
 simp only[zT];repeat(first|go_big_quiet_step (fail)|quiet_step (fail))
 refine wpQuiet_nil ?_;intro _ hw_;obtain⟨p,hw_⟩:=hw_;subst hw_;have hPw:=hO.b.up (Go.below_growBy W9 p);refine hPw.append_l (n:=j) (m:=k-(j+1)) qM _ _ 32 qM underlying32 a1y qM (hPw.s0.take oM) (hO.oe.slice j) qM ?hx oM ?_
 case hx =>
  go_simp;by_cases h9:e1c=j+1
  ·rw[if_pos h9]
   exact SL.drop rfl hPw.s0 oM (.inr ⟨h9.symm,rfl⟩)
  ·rw[if_neg h9]
   exact SL.drop rfl hPw.s0 oM (.inl rfl)
 intro e9 S' W' hP' hown';go_wp2_with fail
 all_goals (go_meet;exact⟨S',j+(k-(j+1)),nf,⟨hP'.sub vM,hown',hO.of⟩,oM,oM⟩)):P:=h
open odd7_anyK7 in
theorem c3o :a1t 7:=a1x
theorem odd7_anyK8.zCase {P:Prop}(h:P:=by
 have hev:∀X W',Ev noB S9 W9 X W'->OY noB w X W' _ _:=λX W' h=>hO.b.evo h (h.below hO.b.o.lows (λ_ h=>h.elim) hO.b.size)
 go_wp2_with (first
  |(go_at_call 137;(with_reducible refine(b4q S9 W9 hO.b.tw id ll rr _ m hlv hm f0 f2 f3).mono ?_);rintro e WT⟨ST,tv,rfl,htv,hevT⟩;obtain⟨ta,tc,rfl,htc⟩:=htv.form;have hT1:=(hev _ _ hevT).add htv;have x0:=(hT1.store a1y hT1.s1 hO.oe j 0 .int rfl (.int .i64 id) (CT.ok_int f0));have x1:=(x0.1.store a1y x0.1.s1 hO.oe j 1 (.sl 26) rfl (.slice ta m tc) (CT.ok_sl x0.1.s0 hm));have x2:=(x1.1.store a1y x1.1.s1 hO.oe j 2 .int rfl (.int .i64 rr) (CT.ok_int f3));have x3:=(x2.1.store a1y x2.1.s1 hO.oe j 3 .int rfl (.int .i64 ll) (CT.ok_int f2));obtain⟨id',l',r',lv',m',b0,b1,b2,b3,-⟩:=SL.edge hT1.tw hT1.s1 hjk;have u0:WT.frozen? ⟨eb,eo+j*4,none⟩=false:=x0.2;have u1:=(hT1.store a1y hT1.s1 hO.oe j 1 (.sl 26) rfl (.slice ta m tc) (CT.ok_sl hT1.s0 hm)).2;have u2:=(hT1.store a1y hT1.s1 hO.oe j 2 .int rfl (.int .i64 rr) (CT.ok_int f3)).2;have u3:=(hT1.store a1y hT1.s1 hO.oe j 3 .int rfl (.int .i64 ll) (CT.ok_int f2)).2))
 go_meet;exact⟨ST,k,nf,⟨x3.1.tailT,hO.oe,hO.of⟩,oM,oM⟩):P:=h
open odd7_anyK8 in
theorem c3p :a1t 8:=a1x
theorem odd7_anyK9.zCase {P:Prop}(h:P:=by
 obtain⟨p,hp,hpm⟩:∃p:Nat,min ((n:Int) % 4) (nf:Int)=(p:Int)/\p<=nf:=⟨min (n % 4) nf,oM,oM⟩;have hpI:(p:Int)<=(f1c:Int):=oM;have hft:=hO.b.s1.take hpm;go_wp2_with fail;go_meet;exact⟨S9,k,p,⟨((hO.b.add hft).sub vM),hO.oe,hO.of.slice _⟩,oM,oM⟩):P:=h
open odd7_anyK9 in
theorem c3q :a1t 9:=a1x
theorem odd7_anyK10.zCase {P:Prop}(h:P:=by
 have hw1:IntKind.i64.wrap ((n:Int)-1)=(n:Int)-1:=a0k oM oM;obtain⟨HS,hHS⟩:=zE W9.heap.size;go_wp2_with (first
  |(at_builtin;refine hO.b.append_n qM _ _ 33 qM underlying33 a1l qM hO.b.s1 hO.of qM hHS (c4s (id:=(n:Int)-1) ⟨oM,oM⟩) rfl oM ?_;intro e9 S' W' hP' hown'))
 go_meet;exact⟨S',k,nf+1,⟨hP'.sub vM,hO.oe,hown'⟩,oM,oM⟩):P:=h
open odd7_anyK10 in
theorem b9y :a1t 10:=a1x
theorem odd7_anyK11.zCase {P:Prop}(h:P:=by
 obtain⟨p,hp,hp3⟩:∃p:Nat,Int.tmod (n:Int) 3=(p:Int)/\p<3:=⟨n % 3,by rw[Int.tmod_eq_emod_of_nonneg oM];omega,oM⟩;have hpe:(n:Int) % 3=(p:Int):=by rw[<-hp,Int.tmod_eq_emod_of_nonneg oM]
 have hpI:(p:Int)<3:=oM;have hpt:∀W Z,Blk W Z #[.int .i64 0,.int .i64 22,.int .i64 28] 3->∃x,W.cell? ⟨Z,p,none⟩=some (.int .i64 x)/\fits x:=λW Z h=>by
  match p,hp3 with
  |0,_=>exact⟨_,h.cell 0,jM⟩
  |1,_=>exact⟨_,h.cell 1,jM⟩
  |2,_=>exact⟨_,h.cell 2,jM⟩
 obtain⟨cx,hcx,fcx⟩:∃cx,IntKind.i64.wrap (10*(n:Int))=cx/\fits cx:=⟨_,rfl,a2d _⟩;have hoe:=hO.oe;have hof:=hO.of;clear hst z0 z2 z3 c0 c1 c2 c3 hlv;go_upto_region 41 with fail;refine a0n (λWB hWB=> ?_);have hB:=hO.b.box #[.int .i64 cx,.int .i64 90] 26;obtain⟨B15,hB15⟩:=zE W9.heap.size;rw[<-hWB,hB15]at hB;rw[hB15];clear hWB hB15 hO hT hve hvf;refine Go.wp_region_reln 21 zM zM (λ_ g W=>OY noB w g W [(B15,#[.int .i64 cx,.int .i64 90],26),(BQ,#[.int .i64 q0,.int .i64 q1,.int .i64 q2],23)] [(206,.slice (some ⟨eb,eo,none⟩) k e1c,k),(140,.slice f10 nf f1c,nf)]) (λg W g' W'=>Ev noB g W g' W') (FO7 w.heap.size B15 n k p eb eo e1c cx) (λ_ _ _ _ _ _ h g=>h.kept g) S9 hB.drew ?_ ?_
 ·intro i o hi ho c bb g W hc hM hA hD K hK
  match i,hi,ho with
  |0,_,ho =>
   cases ho;have f8:=a0a (v:= .slice (some ⟨eb,eo,none⟩) k e1c) (hA.at_ (k:=8) zM);go_simp;exact hK (.slice (some ⟨eb,eo,none⟩) k e1c) g W rfl (Ev.refl hM.tw) hM
  |1,_,ho =>
   exact ygv
  |2,_,ho =>
   cases ho;have f221:=a0a (v:= .int .i64 (n:Nat)) (a0d hD 1 221 zM rfl rfl);go_simp;exact hK _ g W ⟨_,rfl,zF⟩ (Ev.refl hM.tw) hM
  |3,_,ho =>
   exact ydj
  |4,_,ho =>
   exact yfo
  |5,_,ho =>
   cases ho;have f224:=a0a (v:= .pointer (some ⟨B15,0,none⟩)) (a0d hD 4 224 zM rfl rfl);exact yhk
  |6,_,ho =>
   cases ho;have f225:=a0a (v:= .int .i64 cx) (a0d hD 5 225 zM rfl rfl);go_simp;exact hK _ g W ⟨_,rfl,zF⟩ (Ev.refl hM.tw) hM
  |7,_,ho =>
   cases ho;have f226:=a0d hD 6 226 zM rfl rfl;obtain⟨x226,e226,g226⟩:=f226;have f226:=a0a e226;go_simp;exact hK _ g W ⟨x226,rfl,g226⟩ (Ev.refl hM.tw) hM
  |8,_,ho =>
   exact yfo
  |9,_,ho =>
   cases ho;have f228:=a0a (v:= .pointer (some ⟨B15,0,none⟩)) (a0d hD 8 228 zM rfl rfl);exact yhk
  |10,_,ho =>
   cases ho;have f229:=a0a (v:= .int .i64 cx) (a0d hD 9 229 zM rfl rfl);go_simp;exact hK (.agg #[.int .i64 cx,.int .i64 95]) g W rfl (Ev.refl hM.tw) hM
  |11,_,ho =>
   exact ydj
  |12,_,ho =>
   cases ho;have f223:=a0a (v:= .agg #[.int .i64 cx,.int .i64 90]) (a0d hD 3 223 zM rfl rfl);have f227:=a0d hD 7 227 zM rfl rfl;have f230:=a0a (v:= .agg #[.int .i64 cx,.int .i64 95]) (a0d hD 10 230 zM rfl rfl);have f231:=a0a (v:= .agg #[.int .i64 cx,.int .i64 90]) (a0d hD 11 231 zM rfl rfl);obtain⟨x227,e227,g227⟩:=f227;have f227:=a0a e227;have hTB:TB g W 26 #[.int .i64 cx,.int .i64 90,.int .i64 x227,.int .i64 90,.int .i64 cx,.int .i64 95,.int .i64 cx,.int .i64 90]:=c4r (λu hu=>(List.forall_mem_cons.2 ⟨⟨_,rfl,fcx⟩,List.forall_mem_cons.2 ⟨⟨_,rfl,jM⟩,List.forall_mem_cons.2 ⟨⟨_,rfl,g227⟩,List.forall_mem_cons.2 ⟨⟨_,rfl,jM⟩,List.forall_mem_cons.2 ⟨⟨_,rfl,fcx⟩,List.forall_mem_cons.2 ⟨⟨_,rfl,jM⟩,List.forall_mem_cons.2 ⟨⟨_,rfl,fcx⟩,List.forall_mem_cons.2 ⟨⟨_,rfl,jM⟩,λ_ h=>by simp at h⟩⟩⟩⟩⟩⟩⟩⟩:∀u∈[Value.int .i64 cx,.int .i64 90,.int .i64 x227,.int .i64 90,.int .i64 cx,.int .i64 95,.int .i64 cx,.int .i64 90],∃x,u= .int .i64 x/\fits x) u hu);have hE:=Ev.alloc (X:=noB) hM.tw hTB;go_simp;exact hK (.slice (some ⟨W.heap.size,0,none⟩) 4 4) _ _ (SL.blk (.inr rfl) (Blk.new _ _ _) (by show 4*2<=8;omega)) hE (hM.evo hE ((zR _ _).alloc hM.size _))
  |13,_,ho =>
   cases ho;go_simp;have hb:Below W.heap.size W (W.alloc (.cells #[.int .i64 0,.int .i64 22,.int .i64 28] 3)):=(zR _ _).alloc (yR _) _;exact hK (.slice (some ⟨W.heap.size,0,none⟩) 3 3) g _ ⟨_,rfl,Blk.new _ _ _,λhs=>Nat.lt_irrefl _ (hM.tw.lt hs)⟩ (Ev.of_below hM.tw hb) (hM.up hb)
  |14,_,ho =>
   exact ygv
  |15,_,ho =>
   cases ho;have f234:=a0a (v:= .int .i64 (n:Nat)) (a0d hD 14 234 zM rfl rfl);go_simp;exact hK (.int .i64 (p:Nat)) g W rfl (Ev.refl hM.tw) hM
  |16,_,ho =>
   cases ho;have f233:=a0d hD 13 233 zM rfl rfl;have f235:=a0a (v:= .int .i64 (p:Nat)) (a0d hD 15 235 zM rfl rfl);obtain⟨Z,e233,b233,n233⟩:=f233;have f233:=a0a e233;go_simp;exact hK _ g W ⟨Z,rfl,b233,n233⟩ (Ev.refl hM.tw) hM
  |17,_,ho =>
   cases ho;have f236:=a0d hD 16 236 zM rfl rfl;obtain⟨Z,e236,b236,n236⟩:=f236;have f236:=a0a e236;obtain⟨xt,ct,ft⟩:=hpt W Z b236;go_simp;exact hK _ g W ⟨_,rfl,ft⟩ (Ev.refl hM.tw) hM
  |18,_,ho =>
   cases ho;have f222:=a0d hD 2 222 zM rfl rfl;obtain⟨x222,e222,g222⟩:=f222;have f222:=a0a e222;have f232:=a0d hD 12 232 zM rfl rfl;have f237:=a0d hD 17 237 zM rfl rfl;obtain⟨x237,e237,g237⟩:=f237;have f237:=a0a e237;obtain⟨sv,e232⟩:=zE (bb.eval (.tmp 232));rw[e232]at f232;have h232:SL g W 26 sv 4:=f232;obtain⟨a1,c1,rfl,-⟩:=h232.form;have f232:=a0a e232;go_simp;exact hK _ g W ⟨_,_,_,rfl,g222,g237,h232⟩ (Ev.refl hM.tw) hM
  |19,_,ho =>
   cases ho;have f238:=a0d hD 18 238 zM rfl rfl;obtain⟨a,c,sv,e238,ha,hc9,hsv⟩:=f238;obtain⟨a1,c1,rfl,-⟩:=hsv.form;have f238:=a0a e238;have hE:=Ev.alloc (X:=noB) hM.tw (b2q (l:=21) ha jM hc9 hsv oM);go_simp;exact hK (.slice (some ⟨W.heap.size,0,none⟩) 1 1) _ _ (SL.blk (.inr rfl) (Blk.new _ _ _) (by show 1*4<=4;omega)) hE (hM.evo hE ((zR _ _).alloc hM.size _))
  |20,_,ho =>
   cases ho;have f220:=a0a (v:= .slice (some ⟨eb,eo,none⟩) k e1c) (a0d hD 0 220 zM rfl rfl);have f239:=a0d hD 19 239 zM rfl rfl;exact hM.append_e _ _ 32 rfl underlying32 a1y (c4v f220) hM.s0 hoe rfl f239 oM (λv' S' w' h1 h2 h3=>hK v' S' w' ⟨h1.s0,h2⟩ h3 h1.tailT)
  |i+21,hi,_=>exact absurd hi oM
 ·intro bb g W hM hA hall
  obtain⟨h20,h20o⟩:=(show SL g W 206 (bb.eval (.tmp 240)) (k+1)/\Own w.heap.size (bb.eval (.tmp 240))from hall 20 oM _ _ rfl rfl);obtain⟨va,hva⟩:=zE (bb.eval (.tmp 240));rw[hva]at h20 h20o;have hfr:=hA.frame (rT 220 (rF 21 (rT 42 ([])))) _ rfl zM;clear hall hA;obtain⟨f,hf⟩:∃f:Nat->Value,(λk=>bb.tmps.getD k undef)=f:=⟨_,rfl⟩;have g240:f 240=va:=by rw[<-hf,<-hva];rfl
  rw[hf]at hfr;clear hf hva;subst hfr;simp only[rT,rF,a1z,g240,Nat.reduceAdd];clear g240;simp only[zU];go_wp2_with fail;go_meet;exact⟨g,k+1,nf,⟨((hM.tail).add h20).sub vM,h20o,hof⟩,oM,oM⟩):P:=h
open odd7_anyK11 in
theorem b9z :a1t 11:=a1x
theorem odd7_anyK12.zCase {P:Prop}(h:P:=by
 have hoe:=hO.oe;have hof:=hO.of;have hb:=hO.b;clear hst z0 z2 z3 c0 c1 c2 c3 hlv hO hT hve hvf;go_wp2_with fail;go_loopw [16] (λkk wr=>∃i:Nat,i<=k/\kk= .int .i64 (i:Nat)/\OY noB w S9 wr [(BQ,#[.int .i64 q0,.int .i64 q1,.int .i64 q2],23)] [(206,.slice (some ⟨eb,eo,none⟩) k e1c,k),(140,.slice f10 nf f1c,nf)]) (λkk _=>k-(intOf kk).toNat)
 case atStart=>exact⟨0,Nat.zero_le _,rfl,hb⟩
 case round =>
  clear hb;obtain⟨i,hi,rfl,hb⟩:=hrel;by_cases hlt:i<k
  ·have hltI:(i:Int)<(k:Int):=oM
   have hwi:IntKind.i64.wrap ((i:Int)+1)=((i+1:Nat):Int):=by rw[a0k oM oM];omega
   obtain⟨id',l',r',lv',m',c0,c1,c2,c3,-,-,-,hlv,hm'⟩:=SL.edge hb.tw hb.s0 hlt;obtain⟨la',lc',rfl,hlc'⟩:=hlv.form;have hq:=hb.add hlv;clear c0 c2 c3 hb hlv;go_wp2_with fail;go_loopw [17] (λjj WR9=>∃pj:Nat,pj<=m'/\jj= .int .i64 (pj:Nat)/\WR9.cell? ⟨eb,eo+i*4+1,none⟩=some (.slice la' m' lc')/\OY noB w S9 WR9 [(BQ,#[.int .i64 q0,.int .i64 q1,.int .i64 q2],23)] [(26,.slice la' m' lc',m'),(206,.slice (some ⟨eb,eo,none⟩) k e1c,k),(140,.slice f10 nf f1c,nf)]) (λjj _=>m'-(intOf jj).toNat)
   case atStart=>exact⟨0,Nat.zero_le _,rfl,c1,hq⟩
   case round =>
    clear hq c1;obtain⟨pj,hp,rfl,c1,hq⟩:=hrel;by_cases hpl:pj<m'
    ·have hpI:(pj:Int)<(m':Int):=oM
     have hwp:IntKind.i64.wrap ((pj:Int)+1)=((pj+1:Nat):Int):=by rw[a0k oM oM];omega
     obtain⟨pb,po,pc,heq,hpc,-⟩:=hq.s0.some_ oM
     cases heq;obtain⟨x,y,d0,d1,fx,fy⟩:=SL.point hq.tw hq.s0 hpl;have hpo:=λv fv=>hq.store a1s hq.s0 (a6o hq.s0 hq.o.lows) pj 1 .int rfl (.int .i64 v) (CT.ok_int fv)
     have y1:wr.frozen? ⟨pb,po+pj*2+1,none⟩=false:=(hpo 0 jM).2;obtain⟨ce,hce⟩:=hq.s1.blk_;obtain⟨cp,hcp⟩:=hq.s0.blk_;have hne:eb≠pb:=λe=>by
      subst e;unfold Blk at hce hcp;rw[hce]at hcp;simp only[Option.some.injEq,Obj.cells.injEq]at hcp;exact absurd hcp.2.1 jM
     have hkeep:∀v,(wr.setCell ⟨pb,po+pj*2+1,none⟩ v).cell? ⟨eb,eo+i*4+1,none⟩=some (.slice (some ⟨pb,po,none⟩) m' lc'):=λv=>by
      rw[(hce.other hne _ v).cell,<-hce.cell];exact c1
     clear hce hcp hne;obtain⟨z,hz⟩:=zE (IntKind.i64.wrap (1+IntKind.i64.wrap ((n:Int) % 2*39)));go_upto_region 49 with fail;first|with_reducible refine a0f 20 zM zM ?_|with_reducible refine a0i 20 zM zM ?_
     simp only[zT];repeat(first|go_big_quiet_step (fail)|quiet_step (fail))
     refine wpQuiet_nil ?_;intro _ hw_;obtain⟨p,hw_⟩:=hw_;subst hw_;go_wp2_with fail;refine⟨⟨pj+1,hpl,rfl,(a0l (Go.below_growBy _ _) (hkeep _)),((hpo _ (a1b _)).1.up (Go.below_growBy _ _))⟩,?_⟩;exact ygn
    ·have hge:((pj:Int)<(m':Int))=False:=by simp;omega
     go_wp2_with fail;refine⟨⟨i+1,hlt,rfl,hq.tailT⟩,?_⟩;exact ygn
  ·have hge:((i:Int)<(k:Int))=False:=by simp;omega
   go_wp2_with fail;go_meet;exact⟨S9,k,nf,⟨hb,hoe,hof⟩,oM,oM⟩):P:=h
open odd7_anyK12 in
theorem c0a :a1t 12:=a1x
theorem d4j (U:BS)(w:World)(hT:TW U w)(ev fv:Value)(ne nf:Nat)(hve:SL U w 206 ev ne)(hvf:SL U w 140 fv nf)(hne:ne<=1000)(hnf:nf<=1000)(q0 q1 q2:Int)(fq0:fits q0)(fq1:fits q1)(fq2:fits q2) :
 Calls prog 78 #[ev,fv,.agg #[.int .i64 q0,.int .i64 q1,.int .i64 q2]] w λe w'=>∃S' ev' fv' ne' nf',e= .returned (.tuple #[ev',fv'])/\SL S' w' 206 ev' ne'/\SL S' w' 140 fv' nf'/\ne'<=ne+1/\nf'<=nf+1/\Ev noB noB w S' w':=by
 obtain⟨r,hr,hr13⟩:∃n:Nat,q0 % 13=(n:Int)/\n<13:=⟨(q0 % 13).toNat,oM,oM⟩;match r,hr13 with
 |0,_=>exact c3h U w hT ev fv ne nf hve hvf hne hnf q0 q1 q2 fq0 fq1 fq2 hr
 |1,_=>exact c3i U w hT ev fv ne nf hve hvf hne hnf q0 q1 q2 fq0 fq1 fq2 hr
 |2,_=>exact c3j U w hT ev fv ne nf hve hvf hne hnf q0 q1 q2 fq0 fq1 fq2 hr
 |3,_=>exact c3k U w hT ev fv ne nf hve hvf hne hnf q0 q1 q2 fq0 fq1 fq2 hr
 |4,_=>exact c3l U w hT ev fv ne nf hve hvf hne hnf q0 q1 q2 fq0 fq1 fq2 hr
 |5,_=>exact c3m U w hT ev fv ne nf hve hvf hne hnf q0 q1 q2 fq0 fq1 fq2 hr
 |6,_=>exact c3n U w hT ev fv ne nf hve hvf hne hnf q0 q1 q2 fq0 fq1 fq2 hr
 |7,_=>exact c3o U w hT ev fv ne nf hve hvf hne hnf q0 q1 q2 fq0 fq1 fq2 hr
 |8,_=>exact c3p U w hT ev fv ne nf hve hvf hne hnf q0 q1 q2 fq0 fq1 fq2 hr
 |9,_=>exact c3q U w hT ev fv ne nf hve hvf hne hnf q0 q1 q2 fq0 fq1 fq2 hr
 |10,_=>exact b9y U w hT ev fv ne nf hve hvf hne hnf q0 q1 q2 fq0 fq1 fq2 hr
 |11,_=>exact b9z U w hT ev fv ne nf hve hvf hne hnf q0 q1 q2 fq0 fq1 fq2 hr
 |12,_=>exact c0a U w hT ev fv ne nf hve hvf hne hnf q0 q1 q2 fq0 fq1 fq2 hr
 |r+13,h=>omega
theorem odd10_anyK0.zCase {P:Prop}(h:P:=by
 go_wp2_with (first
  |(go_at_call 78;(with_reducible refine(d4j S9 WD hO.p.b.tw _ _ ne nf hO.p.b.s0 hO.p.b.s1 hne hnf q1 q2 _ fq1 fq2 (by first|exact a1b _|exact a2d _)).mono ?_);rintro e WE⟨SE,ev2,fv2,ne2,nf2,rfl,he2,hf2,hne2,hnf2,hevE⟩;obtain⟨a1,a2,rfl,-⟩:=he2.form;obtain⟨a3,a4,rfl,-⟩:=hf2.form;have hPE:=((hO.p.evn hevE).add (b2u hf2)).add (b2u he2);obtain⟨y0,y1,y2,y3⟩:=a1v hPE.b.b0;have x0:=hPE.b.b0.frozen 0;have x1:=hPE.b.b0.frozen 1))
 go_meet;exact⟨_,_,_,_,_,ne2,nf2,nw,l,⟨((hPE.put (i:=0) rfl rfl).put (i:=1) rfl rfl).sub vM,a6o he2 (λb hb=>(hevE.new b hb).elim (λh=>h.elim) (λh=>Nat.le_trans hO.p.b.size h)),a6o hf2 (λb hb=>(hevE.new b hb).elim (λh=>h.elim) (λh=>Nat.le_trans hO.p.b.size h)),hO.ow⟩,⟨hne2,hnf2,oM,oM,oM,λh=>h,λh=>h⟩⟩):P:=h
open odd10_anyK0 in
theorem c0b :a0z 0:=a1d
end
end Go.Proofs.YtfocdbjceedagaaGreatDoor
