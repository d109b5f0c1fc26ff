/-
  Parts.
-/
import Derived.Test.YtfocdbjceedagaaGreatDoorCat
import Derived.Test.YtfocdbjceedagaaGreatDoorCau
set_option linter.unusedVariables false
set_option linter.unusedSimpArgs false
set_option maxHeartbeats 60000000
set_option maxRecDepth 100000
namespace Go.Proofs.YtfocdbjceedagaaGreatDoor
open Tryz
section
open Go Go.RowKit Go.Shelf
theorem odd7_anyK12.zCase {P:Prop}(h:P:=by
 have Js:=hO.oe;have cN:=hO.of;have hb:=hO.b;clear au z0 z2 z3 c0 c1 c2 c3 aJ hO hT iu iw;go_wp2_with fail;go_loopw [16] (λkk wr=>∃i:Nat,i<=k/\kk= .int .i64 (i:Nat)/\OY noB w S9 wr [(BQ,#[.int .i64 q0,.int .i64 q1,.int .i64 q2],23)] [(206,.slice (some ⟨eb,eo,none⟩) k je,k),(140,.slice f10 nf AO,nf)]) (λkk _=>k-(intOf kk).toNat)
 case atStart=>exact⟨0,Nat.zero_le _,rfl,hb⟩
 case round =>
  clear hb;obtain⟨i,hi,rfl,hb⟩:=hrel;by_cases ag:i<k
  ·have aA:(i:Int)<(k:Int):=oM
   have FT:IntKind.i64.wrap ((i:Int)+1)=((i+1:Nat):Int):=by rw[a0j oM oM];omega
   obtain⟨HN,l',r',HP,m',c0,c1,c2,c3,-,-,-,aJ,vI⟩:=SL.edge hb.tw hb.s0 ag;obtain⟨MW,D0,rfl,Rb⟩:=aJ.form;have hq:=hb.add aJ;clear c0 c2 c3 hb aJ;go_wp2_with fail;go_loopw [17] (λjj MX=>∃pj:Nat,pj<=m'/\jj= .int .i64 (pj:Nat)/\MX.cell? ⟨eb,eo+i*4+1,none⟩=some (.slice MW m' D0)/\OY noB w S9 MX [(BQ,#[.int .i64 q0,.int .i64 q1,.int .i64 q2],23)] [(26,.slice MW m' D0,m'),(206,.slice (some ⟨eb,eo,none⟩) k je,k),(140,.slice f10 nf AO,nf)]) (λjj _=>m'-(intOf jj).toNat)
   case atStart=>exact⟨0,Nat.zero_le _,rfl,c1,hq⟩
   case round =>
    clear hq c1;obtain⟨pj,hp,rfl,c1,hq⟩:=hrel;by_cases aO:pj<m'
    ·have jS:(pj:Int)<(m':Int):=oM
     have Fq:IntKind.i64.wrap ((pj:Int)+1)=((pj+1:Nat):Int):=by rw[a0j oM oM];omega
     obtain⟨pb,po,pc,heq,ie,-⟩:=hq.s0.some_ oM
     cases heq;obtain⟨x,y,d0,d1,fx,fy⟩:=SL.point hq.tw hq.s0 aO;have dY:=λv fv=>hq.store a1z hq.s0 (a6y hq.s0 hq.o.lows) pj 1 .int rfl (.int .i64 v) (CT.ok_int fv)
     have y1:wr.frozen? ⟨pb,po+pj*2+1,none⟩=false:=(dY 0 jM).2;obtain⟨ce,qo⟩:=hq.s1.blk_;obtain⟨cp,ur⟩:=hq.s0.blk_;have av:eb≠pb:=λe=>by
      subst e;unfold Blk at qo ur;rw[qo]at ur;simp only[Option.some.injEq,Obj.cells.injEq]at ur;exact absurd ur.2.1 jM
     have Ed:∀v,(wr.setCell ⟨pb,po+pj*2+1,none⟩ v).cell? ⟨eb,eo+i*4+1,none⟩=some (.slice (some ⟨pb,po,none⟩) m' D0):=λv=>by
      rw[(qo.other av _ v).cell,<-qo.cell];exact c1
     clear qo ur av;obtain⟨z,hz⟩:=zE (IntKind.i64.wrap (1+IntKind.i64.wrap ((n:Int) % 2*39)));go_upto_region 49 with fail;refine zR5 λp=> ?_
     go_wp2_with fail;refine⟨⟨pj+1,aO,rfl,(a0e (Go.below_growBy _ _) (Ed _)),((dY _ (a1c _)).1.up (Go.below_growBy _ _))⟩,?_⟩;exact yhh
    ·have aY:((pj:Int)<(m':Int))=False:=by simp;omega
     go_wp2_with fail;refine⟨⟨i+1,ag,rfl,hq.tailT⟩,?_⟩;exact yhh
  ·have aY:((i:Int)<(k:Int))=False:=by simp;omega
   go_wp2_with fail;go_meet;exact⟨S9,k,nf,⟨hb,Js,cN⟩,oM,oM⟩):P:=h
open odd7_anyK12 in
theorem c0u :a2a 12:=a2f
theorem d6j (U:BS)(w:Wd)(hT:TW U w)(ev fv:Vu)(ne nf:Nat)(iu:SL U w 206 ev ne)(iw:SL U w 140 fv nf)(av:ne<=1000)(ir:nf<=1000)(q0 q1 q2:Int)(df:fits q0)(cT:fits q1)(cU:fits q2) :
 Calls prog 78 #[ev,fv,.agg #[.int .i64 q0,.int .i64 q1,.int .i64 q2]] w λe w'=>∃S' jV jW ne' nf',e= .returned (.tuple #[jV,jW])/\SL S' w' 206 jV ne'/\SL S' w' 140 jW nf'/\ne'<=ne+1/\nf'<=nf+1/\Ev noB noB w S' w':=by
 obtain⟨r,hr,D7⟩:∃n:Nat,q0 % 13=(n:Int)/\n<13:=⟨(q0 % 13).toNat,oM,oM⟩;match r,D7 with
 |0,_=>exact c4e U w hT ev fv ne nf iu iw av ir q0 q1 q2 df cT cU hr
 |1,_=>exact c4f U w hT ev fv ne nf iu iw av ir q0 q1 q2 df cT cU hr
 |2,_=>exact c4g U w hT ev fv ne nf iu iw av ir q0 q1 q2 df cT cU hr
 |3,_=>exact c4h U w hT ev fv ne nf iu iw av ir q0 q1 q2 df cT cU hr
 |4,_=>exact c4i U w hT ev fv ne nf iu iw av ir q0 q1 q2 df cT cU hr
 |5,_=>exact c4j U w hT ev fv ne nf iu iw av ir q0 q1 q2 df cT cU hr
 |6,_=>exact c4k U w hT ev fv ne nf iu iw av ir q0 q1 q2 df cT cU hr
 |7,_=>exact c4l U w hT ev fv ne nf iu iw av ir q0 q1 q2 df cT cU hr
 |8,_=>exact c4m U w hT ev fv ne nf iu iw av ir q0 q1 q2 df cT cU hr
 |9,_=>exact c4n U w hT ev fv ne nf iu iw av ir q0 q1 q2 df cT cU hr
 |10,_=>exact c0s U w hT ev fv ne nf iu iw av ir q0 q1 q2 df cT cU hr
 |11,_=>exact c0t U w hT ev fv ne nf iu iw av ir q0 q1 q2 df cT cU hr
 |12,_=>exact c0u U w hT ev fv ne nf iu iw av ir q0 q1 q2 df cT cU hr
 |r+13,h=>omega
theorem odd10_anyK0.zCase {P:Prop}(h:P:=by
 go_wp2_with (first
  |(go_at_call 78;(with_reducible refine(d6j S9 WD hO.p.b.tw _ _ ne nf hO.p.b.s0 hO.p.b.s1 av ir q1 q2 _ cT cU (by first|exact a1c _|exact a2o _)).mono ?_);rintro e WE⟨SE,UR,US,Rc,Re,rfl,iH,og,gT,JJ,yX⟩;obtain⟨a1,a2,rfl,-⟩:=iH.form;obtain⟨a3,a4,rfl,-⟩:=og.form;have F4:=((hO.p.evn yX).add (b3n og)).add (b3n iH);obtain⟨y0,y1,y2,y3⟩:=a2c F4.b.b0;have x0:=F4.b.b0.frozen 0;have x1:=F4.b.b0.frozen 1))
 go_meet;exact⟨_,_,_,_,_,Rc,Re,nw,l,⟨((F4.put (i:=0) rfl rfl).put (i:=1) rfl rfl).sub vM,a6y iH (λb hb=>(yX.new b hb).elim (λh=>h.elim) (λh=>Nat.le_trans hO.p.b.size h)),a6y og (λb hb=>(yX.new b hb).elim (λh=>h.elim) (λh=>Nat.le_trans hO.p.b.size h)),hO.ow⟩,⟨gT,JJ,oM,oM,oM,λh=>h,λh=>h⟩⟩):P:=h
open odd10_anyK0 in
theorem c0v :a1d 0:=a1g
theorem odd10_anyK1.zQ {P:Prop}(h:P:=by
  obtain⟨q,hq,C7⟩:∃q:Nat,Int.tmod (n:Int) 5=(q:Int)/\q<5:=⟨n % 5,by rw[Int.tmod_eq_emod_of_nonneg oM];omega,oM⟩;have tX:(n:Int) % 5=(q:Int):=by rw[<-hq,Int.tmod_eq_emod_of_nonneg oM]
  have L0:(q:Int)<5:=oM;obtain⟨s,hs,hc⟩:∃s:ByteArray,s.size<=30/\(#[.string ⟨#[]⟩,.string ⟨#[70,105,101,108,100]⟩,.string ⟨#[119,111,111,100]⟩,.string ⟨#[97,98,99,100,101,102,103,104,105,106,107,108,109]⟩,.string ⟨#[108,97,107,101]⟩]:Array Value)[q]? =some (.string s):=by
   match q,C7 with
   |0,_=>exact⟨_,jM,rfl⟩
   |1,_=>exact⟨_,jM,rfl⟩
   |2,_=>exact⟨_,jM,rfl⟩
   |3,_=>exact⟨_,jM,rfl⟩
   |4,_=>exact⟨_,jM,rfl⟩
  have iS:∀W Z,Blk W Z e2e 9->W.cell? ⟨Z,q,none⟩=some (.string s):=λW Z h=>(h.cell q).trans hc
  have Ee:=hO.oe;have AP:=hO.of;have Ef:=hO.ow;have hP:=hO.p;go_upto_region 9 with fail;clear au hc hO c0 c1 c2 c3 c4 i0 i1 i2 b0 b1 b2 b3;refine Go.wp_region_reln 12 zM zM (λ_ g W=>OP noB w g W [(BO,#[.slice vQ ne vR,.slice (some ⟨fb,fo,none⟩) nf js,.slice j5 nw jv,.slice lz l.length j6],37),(BR,mZ,37),(BQ,qC q0 q1 q2,23),(BM,M0,37)] [(206,.slice vQ ne vR,ne),(140,.slice (some ⟨fb,fo,none⟩) nf js,nf),(149,.slice j5 nw jv,nw)] (.slice lz l.length j6) l) (λg W g' W'=>Ev noB g W g' W') (FG1 BO k n p q nf fb fo js s) (λ_ _ _ _ _ _ h g=>h.kept g) S9 (hP.up (zR _ _).drew) ?_ ?_
  ·intro i o hi ho c bb g W hc hM hA hD K hK
   match i,hi,ho with
   |0,_,ho =>
    exact ygm
   |1,_,ho =>
    cases ho;have f49:=a0a (v:= .pointer (some ⟨BO,1,none⟩)) (a0f hD 0 49 zM rfl rfl);exact yfw
   |2,_,ho =>
    exact ybq
   |3,_,ho =>
    exact ygm
   |4,_,ho =>
    cases ho;have f52:=a0a (v:= .pointer (some ⟨BO,1,none⟩)) (a0f hD 3 52 zM rfl rfl);exact yfw
   |5,_,ho =>
    cases ho;have f53:=a0a (v:= .slice (some ⟨fb,fo,none⟩) nf js) (a0f hD 4 53 zM rfl rfl);go_simp;exact hK (.int .i64 (nf:Nat)) g W rfl (Ev.refl hM.b.tw) hM
   |6,_,ho =>
    cases ho;have f51:=a0a (v:= .int .i64 (k:Nat)) (a0f hD 2 51 zM rfl rfl);have f54:=a0a (v:= .int .i64 (nf:Nat)) (a0f hD 5 54 zM rfl rfl);go_simp;exact hK (.int .i64 (p:Nat)) g W rfl (Ev.refl hM.b.tw) hM
   |7,_,ho =>
    cases ho;go_simp;have hb:Below W.heap.size W (W.alloc (.cells e2e 9)):=(zR _ _).alloc (yR _) _;exact hK (.slice (some ⟨W.heap.size,0,none⟩) 5 5) g _ ⟨_,rfl,Blk.new _ _ _,λhs=>Nat.lt_irrefl _ (hM.b.tw.lt hs)⟩ (Ev.of_below hM.b.tw hb) (hM.up hb)
   |8,_,ho =>
    exact yba
   |9,_,ho =>
    cases ho;have f57:=a0a (v:= .int .i64 (n:Nat)) (a0f hD 8 57 zM rfl rfl);go_simp;exact hK (.int .i64 (q:Nat)) g W rfl (Ev.refl hM.b.tw) hM
   |10,_,ho =>
    cases ho;have f56:=a0f hD 7 56 zM rfl rfl;have f58:=a0a (v:= .int .i64 (q:Nat)) (a0f hD 9 58 zM rfl rfl);obtain⟨Z,Rf,Rg,Rh⟩:=f56;have f56:=a0a Rf;go_simp;exact hK _ g W ⟨Z,rfl,Rg,Rh⟩ (Ev.refl hM.b.tw) hM
   |11,_,ho =>
    cases ho;have f59:=a0f hD 10 59 zM rfl rfl;obtain⟨Z,Ri,Rj,n59⟩:=f59;have f59:=a0a Ri;have ct:=iS W Z Rj;go_simp;exact hK (.string s) g W rfl (Ev.refl hM.b.tw) hM
   |i+12,hi,_=>exact absurd hi oM
  ·intro bb g W hM hA ah
   have h50:bb.eval (.tmp 50)= .slice (some ⟨fb,fo,none⟩) nf js:=ah 1 oM _ _ rfl rfl;have h55:bb.eval (.tmp 55)= .int .i64 (p:Nat):=ah 6 oM _ _ rfl rfl;have h60:bb.eval (.tmp 60)= .string s:=ah 11 oM _ _ rfl rfl;have aC:=hA.frame (rT 49 (rF 12 (rT 313 ([])))) _ rfl zM;clear ah hA;obtain⟨f,hf⟩:=zDt bb;have C6:f 50= .slice (some ⟨fb,fo,none⟩) nf js:=by rw[<-hf,<-h50];rfl
   have FI:f 55= .int .i64 (p:Nat):=by rw[<-hf,<-h55];rfl
   have MY:f 60= .string s:=by rw[<-hf,<-h60];rfl
   rw[hf]at aC;clear hf h50 h55 h60;subst aC;simp only[rT,rF,a2d,C6,FI,MY,Nat.reduceAdd];clear C6 FI MY;simp only[zU];obtain⟨HN,UT,UU,UW,CM,d0,d1,d2,d3,d4,-⟩:=SL.face5 hM.b.tw hM.b.s1 gS;obtain⟨hX,z9⟩:=hM.store a1v hM.b.s1 AP p 1 .str rfl (.string s) (CT.ok_str hs);go_wp2_with fail;go_meet;exact⟨_,_,_,_,_,_,_,_,_,⟨hX,Ee,AP,Ef⟩,OddR.refl _ _ _ _⟩):P:=h
theorem odd10_anyK1.zCase {P:Prop}(h:P:=by exact zP1):P:=h
open odd10_anyK1 in
theorem c0w :a1d 1:=a1g
theorem odd10_anyK2.zQ {P:Prop}(h:P:=by
  obtain⟨s,hs,pQ⟩:=a7k n oM;have z9:WD.frozen? ⟨fb,fo+p*5+2,none⟩=false:=(au 2 .str rfl (.string ⟨#[]⟩) (CT.ok_str jM)).2;have hX:=λu hu=>(au 2 .str rfl u hu).1
  clear au;go_upto_region 12 with fail;refine zR6 λp=> ?_
  go_wp2_with fail;go_meet;exact⟨_,_,_,_,_,_,_,_,_,⟨(hX _ (CT.ok_str hs)).up (Go.below_growBy _ _),hO.oe,hO.of,hO.ow⟩,OddR.refl _ _ _ _⟩):P:=h
theorem odd10_anyK2.zCase {P:Prop}(h:P:=by exact zP1):P:=h
open odd10_anyK2 in
theorem c0x :a1d 2:=a1g
theorem odd10_anyK3.zQ {P:Prop}(h:P:=by
  obtain⟨z,hz,fz⟩:∃z,IntKind.i64.wrap ((n:Int)*6)=z/\fits z:=⟨_,rfl,a2o _⟩;have z9:WD.frozen? ⟨fb,fo+p*5+3,none⟩=false:=(au 3 .int rfl (.int .i64 0) (CT.ok_int jM)).2;have hX:=λu hu=>(au 3 .int rfl u hu).1
  clear au;go_upto_region 15 with fail;refine zR3 λp=> ?_
  go_wp2_with fail;go_meet;exact⟨_,_,_,_,_,_,_,_,_,⟨(hX _ (CT.ok_int (by first|exact fz|exact a1c _|exact a2o _))).up (Go.below_growBy _ _),hO.oe,hO.of,hO.ow⟩,OddR.refl _ _ _ _⟩):P:=h
theorem odd10_anyK3.zCase {P:Prop}(h:P:=by exact zP1):P:=h
open odd10_anyK3 in
theorem c0y :a1d 3:=a1g
theorem odd10_anyK4.zQ {P:Prop}(h:P:=by
  have z9:WD.frozen? ⟨fb,fo+p*5+4,none⟩=false:=(au 4 .int rfl (.int .i64 0) (CT.ok_int jM)).2;have hX:=λu hu=>(au 4 .int rfl u hu).1
  clear au;go_upto_region 18 with fail;refine zR3 λp=> ?_
  go_wp2_with fail;go_meet;exact⟨_,_,_,_,_,_,_,_,_,⟨(hX _ (CT.ok_int (by first|exact a1c _|exact a2o _|exact⟨oM,oM⟩))).up (Go.below_growBy _ _),hO.oe,hO.of,hO.ow⟩,OddR.refl _ _ _ _⟩):P:=h
theorem odd10_anyK4.zCase {P:Prop}(h:P:=by exact zP1):P:=h
open odd10_anyK4 in
theorem c0z :a1d 4:=a1g
end
end Go.Proofs.YtfocdbjceedagaaGreatDoor
