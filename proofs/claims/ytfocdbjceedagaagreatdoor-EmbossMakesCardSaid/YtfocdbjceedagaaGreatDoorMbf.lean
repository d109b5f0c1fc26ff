/-
  Parts.
-/
import Derived.Test.YtfocdbjceedagaaGreatDoorMbc
import Derived.Test.YtfocdbjceedagaaGreatDoorMbd
import Derived.Test.YtfocdbjceedagaaGreatDoorMbe
set_option linter.unusedVariables false
set_option linter.unusedSimpArgs false
set_option maxHeartbeats 60000000
set_option maxRecDepth 100000
namespace Go.Proofs.YtfocdbjceedagaaGreatDoor
open Tryz
section
open Go Go.RowKit Go.Shelf
attribute [local go_sem] Oper.semAt_some
attribute [local go_sem ↓] Go.wp_at_zero Go.wp_at_succ
theorem odd10_anyK13.zCase {P:Prop}(h:P:=by
 by_cases hp0:l=[]
 ·subst hp0
  exact yba
 have hlp:0<l.length:=List.length_pos_iff.2 hp0;obtain⟨g,rfl,hgc⟩:=b9w hO.p.row hp0;obtain⟨m,hm⟩:=zE l.length;obtain⟨ix,hp,hpl⟩:∃ix:Nat,Int.tmod (k:Int) (m:Int)=(ix:Int)/\ix<l.length:=⟨k % m,by rw[Int.tmod_eq_emod_of_nonneg oM];omega,by rw[hm];exact Nat.mod_lt _ oM⟩;have hpI:(ix:Int)<(m:Int):=oM;have hfI:(0:Int)<(m:Int):=oM;have hfI2:((m:Int)==0)=false:=by simp;omega
 have hj1:IntKind.i64.wrap ((ix:Int)+1)=(ix:Int)+1:=a0k oM oM;have hj2:(ix:Int)+1<=(m:Int):=oM;have hj3:((ix:Int)+1).toNat=ix+1:=oM;have hj4:(ix:Int)<=(pc1:Int):=oM;have hR:OddR ne nf nw l ne nf nw (l.take ix++l.drop (ix+1)):=OddR.del hpl;have hkl:(l.take ix).length=ix:=by rw[List.length_take];omega
 rw[hm]at b3;replace hm:=Lib.hid hm;clear hp0 hlp;go_upto_region 45 with fail;first|with_reducible refine a0f 17 zM zM ?_|with_reducible refine a0i 17 zM zM ?_
 simp only[zT];repeat(first|go_big_quiet_step (fail)|quiet_step (fail))
 refine wpQuiet_nil ?_;intro _ hw_;obtain⟨p,hw_⟩:=hw_;subst hw_;have hPw:=hO.p.up (Go.below_growBy WD p);have hL:=a0h a4f hPw.row oM;have hF:=d4i hPw.row;have hT:=b9x (k:=ix+1) hL hF oM;rw[hm.out]at hT;have e1:Option.map (λx=>Addr.add x ((ix+1)*plE.s)) (some (⟨g,0,none⟩:Addr))=some ⟨g,(ix+1)*7,none⟩:=by simp[Addr.add,plE]
 rw[e1]at hT;refine El.joinO (n0:=(WD.growBy p).heap.size) a4f d5b qM _ _ qM w.heap.size qM (l.take ix) (d4h hPw.row oM) ⟨_,_,by rw[hkl]⟩ (l.drop (ix+1)) qM ?hx ?hf (by rw[List.length_take,List.length_drop];omega) hPw.b.size ?_
 case hx=>go_simp;have h9:=hT.1;rw[World.size_growBy]at h9;exact h9
 case hf=>go_simp;have h9:=hT.2;rw[List.length_drop]at h9;exact h9
 rintro v9 w9 hr9 hg9⟨g9,c9,rfl⟩ hn9;obtain⟨l2,hl2⟩:=zE (l.take ix++l.drop (ix+1));rw[hl2]at hr9 hR;simp only[hl2];have hP9:=hPw.more hr9 hg9 hn9;have d3:=hP9.b.b0.cell 3;have z3:=hP9.b.b0.frozen 3;have hQ:=hP9.put (i:=3) (v:= .slice (some ⟨g9,0,none⟩) l2.length c9) rfl rfl;go_wp2_with fail
 all_goals go_meet
 all_goals exact⟨_,_,_,_,_,_,_,_,_,⟨hQ,hO.oe,hO.of,hO.ow⟩,hR⟩):P:=h
open odd10_anyK13 in
theorem b7e :a0z 13:=a1d
theorem odd10_anyK14.zCase {P:Prop}(h:P:=by
 obtain⟨s,hs,htx⟩:=a6x k oM;obtain⟨q,hq,hq4⟩:∃q:Nat,Int.tmod (n:Int) 4=(q:Int)/\q<4:=⟨n % 4,by rw[Int.tmod_eq_emod_of_nonneg oM];omega,oM⟩;have hqe:(n:Int) % 4=(q:Int):=by rw[<-hq,Int.tmod_eq_emod_of_nonneg oM]
 have hqI:(q:Int)<4:=oM;obtain⟨z,hz,hc⟩:∃z:Int,fits z/\d8y[q]? =some (.int .i64 z):=by
  match q,hq4 with
  |0,_=>exact⟨_,jM,rfl⟩
  |1,_=>exact⟨_,jM,rfl⟩
  |2,_=>exact⟨_,jM,rfl⟩
  |3,_=>exact⟨_,jM,rfl⟩
 have hpt:∀W Z,Blk W Z d8y 3->W.cell? ⟨Z,q,none⟩=some (.int .i64 z):=λW Z h=>(h.cell q).trans hc
 have hOe:=hO.oe;have hOf:=hO.of;have hOw:=hO.ow;have hP:=hO.p;go_upto_region 47 with fail;clear hc hO i0 i1 i2 b0 b1 b2 b3;refine Go.wp_region_reln 24 zM zM (λ_ g W=>OP noB w g W [(BO,#[.slice ea1 ne ec1,.slice fa1 nf fc1,.slice wa1 nw wc1,.slice pa1 l.length pc1],37),(BR,mZ,37),(BQ,qC q0 q1 q2,23),(BM,M0,37)] [(206,.slice ea1 ne ec1,ne),(140,.slice fa1 nf fc1,nf),(149,.slice wa1 nw wc1,nw)] (.slice pa1 l.length pc1) l) (λg W g' W'=>Ev noB g W g' W') (FG14 BO n k q pa1 l pc1 s z) (λ_ _ _ _ _ _ h g=>h.kept g) S9 (hP.up (zR _ _).drew) ?_ ?_
 ·intro i o hi ho c bb g W hc hM hA hD K hK
  match i,hi,ho with
  |0,_,ho =>
   cases ho;have f5:=a0a (v:= .pointer (some ⟨BO,0,none⟩)) (hA.at_ (k:=5) zM);go_simp;exact hK (.pointer (some ⟨BO,3,none⟩)) g W rfl (Ev.refl hM.b.tw) hM
  |1,_,ho =>
   cases ho;have f309:=a0a (v:= .pointer (some ⟨BO,3,none⟩)) (a0d hD 0 309 zM rfl rfl);have z0:W.cell? ⟨BO,3,none⟩=some (.slice pa1 l.length pc1):=hM.b.b0.cell 3;go_simp;exact hK (.slice pa1 l.length pc1) g W rfl (Ev.refl hM.b.tw) hM
  |2,_,ho =>
   cases ho;go_simp;have hb:Below W.heap.size W (W.alloc (.cells d8y 3)):=(zR _ _).alloc (yR _) _;exact hK (.slice (some ⟨W.heap.size,0,none⟩) 4 4) g _ ⟨_,rfl,Blk.new _ _ _,λhs=>Nat.lt_irrefl _ (hM.b.tw.lt hs)⟩ (Ev.of_below hM.b.tw hb) (hM.up hb)
  |3,_,ho =>
   exact yau
  |4,_,ho =>
   cases ho;have f312:=a0a (v:= .int .i64 (n:Nat)) (a0d hD 3 312 zM rfl rfl);go_simp;exact hK (.int .i64 (q:Nat)) g W rfl (Ev.refl hM.b.tw) hM
  |5,_,ho =>
   cases ho;have f311:=a0d hD 2 311 zM rfl rfl;have f313:=a0a (v:= .int .i64 (q:Nat)) (a0d hD 4 313 zM rfl rfl);obtain⟨Z,e311,b311,n311⟩:=f311;have f311:=a0a e311;go_simp;exact hK _ g W ⟨Z,rfl,b311,n311⟩ (Ev.refl hM.b.tw) hM
  |6,_,ho =>
   cases ho;have f314:=a0d hD 5 314 zM rfl rfl;obtain⟨Z,e314,b314,n314⟩:=f314;have f314:=a0a e314;have ct:=hpt W Z b314;go_simp;exact hK (.int .i64 z) g W rfl (Ev.refl hM.b.tw) hM
  |7,_,ho =>
   exact yau
  |8,_,ho =>
   cases ho;have f316:=a0a (v:= .int .i64 (n:Nat)) (a0d hD 7 316 zM rfl rfl);exact ybh
  |9,_,ho =>
   cases ho;have f315:=a0a (v:= .int .i64 z) (a0d hD 6 315 zM rfl rfl);have f317:=a0d hD 8 317 zM rfl rfl;obtain⟨x317,e317,g317⟩:=f317;have f317:=a0a e317;exact ybh
  |10,_,ho =>
   exact yau
  |11,_,ho =>
   cases ho;have f319:=a0a (v:= .int .i64 (n:Nat)) (a0d hD 10 319 zM rfl rfl);exact ybh
  |12,_,ho =>
   cases ho;have f320:=a0d hD 11 320 zM rfl rfl;obtain⟨x320,e320,g320⟩:=f320;have f320:=a0a e320;exact ybh
  |13,_,ho =>
   exact ybj
  |14,_,ho =>
   cases ho;have f322:=a0a (v:= .int .i64 (k:Nat)) (a0d hD 13 322 zM rfl rfl);exact ybh
  |15,_,ho =>
   cases ho;have f323:=a0d hD 14 323 zM rfl rfl;obtain⟨x323,e323,g323⟩:=f323;have f323:=a0a e323;exact ybh
  |16,_,ho =>
   cases ho;have f321:=a0d hD 12 321 zM rfl rfl;obtain⟨x321,e321,g321⟩:=f321;have f321:=a0a e321;have f324:=a0d hD 15 324 zM rfl rfl;obtain⟨x324,e324,g324⟩:=f324;have f324:=a0a e324;go_simp;exact hK _ g W ⟨_,_,rfl,g321,g324⟩ (Ev.refl hM.b.tw) hM
  |17,_,ho =>
   exact ybj
  |18,_,ho =>
   cases ho;have f326:=a0a (v:= .int .i64 (k:Nat)) (a0d hD 17 326 zM rfl rfl);exact ygx
  |19,_,ho =>
   exact yau
  |20,_,ho =>
   cases ho;have f328:=a0a (v:= .int .i64 (n:Nat)) (a0d hD 19 328 zM rfl rfl);exact ybh
  |21,_,ho =>
   cases ho;have f329:=a0d hD 20 329 zM rfl rfl;obtain⟨x329,e329,g329⟩:=f329;have f329:=a0a e329;exact ybh
  |22,_,ho =>
   cases ho;have f318:=a0d hD 9 318 zM rfl rfl;obtain⟨x318,e318,g318⟩:=f318;have f318:=a0a e318;have f325:=a0d hD 16 325 zM rfl rfl;have f327:=a0a (v:= .string s) (a0d hD 18 327 zM rfl rfl);have f330:=a0d hD 21 330 zM rfl rfl;obtain⟨x330,e330,g330⟩:=f330;have f330:=a0a e330;obtain⟨x9,y9,e325,hx9,hy9⟩:=f325;have f325:=a0a e325;go_simp;exact hK _ g W ⟨⟨_,_,_,_,_,_,_⟩,rfl,⟨g318,hx9,hy9,(by decide:fits 5),(show s.size<=1000 by omega)⟩,(by decide:4<=1000)⟩ (Ev.refl hM.b.tw) hM
  |23,_,ho =>
   cases ho;have f331:=a0d hD 22 331 zM rfl rfl;obtain⟨y,e331,hy1,hy2⟩:=f331;obtain⟨i9,x9,y9,c9,n9,w9,d9⟩:=y;have f331:=a0a e331;have hb:Below W.heap.size W (W.alloc (.cells #[.int .i64 i9,.int .i64 x9,.int .i64 y9,.string c9,.string n9,.int .i64 w9,.int .i64 d9] 66)):=(zR _ _).alloc (yR _) _;go_simp;exact hK (.slice (some ⟨W.heap.size,0,none⟩) 1 1) g _ ⟨_,⟨i9,x9,y9,c9,n9,w9,d9⟩,rfl,Blk.new _ _ _,λhs=>Nat.lt_irrefl _ (hM.b.tw.lt hs),hy1,hy2⟩ (Ev.of_below hM.b.tw hb) (hM.up hb)
  |i+24,hi,_=>exact absurd hi oM
 ·intro bb g W hM hA hall
  have h310:bb.eval (.tmp 310)= .slice pa1 l.length pc1:=hall 1 oM _ _ rfl rfl;obtain⟨H,y,h332,hBy,-,hy1,hy2⟩:=(show ∃H y,bb.eval (.tmp 332)= .slice (some ⟨H,0,none⟩) 1 1/\Blk W H (plE.enc y).toArray 66/\¬g H/\PcOk y/\y.cls.size<=1000 from hall 23 oM _ _ rfl rfl);have hfr:=hA.frame (rT 309 (rF 24 (rT 41 ([])))) _ rfl zM;clear hall hA;obtain⟨f,hf⟩:∃f:Nat->Value,(λk=>bb.tmps.getD k undef)=f:=⟨_,rfl⟩;have g310:f 310= .slice pa1 l.length pc1:=by rw[<-hf,<-h310];rfl
  have g332:f 332= .slice (some ⟨H,0,none⟩) 1 1:=by rw[<-hf,<-h332];rfl
  rw[hf]at hfr;clear hf h310 h332;subst hfr;simp only[rT,rF,a1z,g310,g332,Nat.reduceAdd];clear g310 g332;simp only[zU];refine El.pushAt a4f d5b qM _ _ qM qM hM.row y qM hBy hM.b.size oM ?_;intro v9 w9 hr9 hg9 hn9;have hR:OddR ne nf nw l ne nf nw (l++[y]):=OddR.push hy1 hy2;have hl9:(l++[y]).length<=2000:=by rw[List.length_append];simp;omega
  obtain⟨l2,hl2⟩:=zE (l++[y]);rw[hl2]at hr9 hR hl9;have hP9:=hM.more hr9 hg9 hn9;have d3:=hP9.b.b0.cell 3;have z3:=hP9.b.b0.frozen 3;obtain⟨a9,c9,rfl,-⟩:=(a0h a4f hr9 oM).form;have hQ:=hP9.put (i:=3) (v:= .slice a9 l2.length c9) rfl rfl;go_wp2_with fail
  all_goals go_meet
  all_goals exact⟨_,_,_,_,_,_,_,_,_,⟨hQ,hOe,hOf,hOw⟩,hR⟩):P:=h
open odd10_anyK14 in
theorem b7f :a0z 14:=a1d
theorem odd10_anyK15.zCase {P:Prop}(h:P:=by
 by_cases hp0:l=[]
 ·subst hp0
  exact yba
 have hlp:0<l.length:=List.length_pos_iff.2 hp0;obtain⟨g,rfl,hgc⟩:=b9w hO.p.row hp0;obtain⟨m,hm⟩:=zE l.length;obtain⟨ix,hp,hpl⟩:∃ix:Nat,Int.tmod (k:Int) (m:Int)=(ix:Int)/\ix<l.length:=⟨k % m,by rw[Int.tmod_eq_emod_of_nonneg oM];omega,by rw[hm];exact Nat.mod_lt _ oM⟩;have hpI:(ix:Int)<(m:Int):=oM;have hfI:(0:Int)<(m:Int):=oM;have hfI2:((m:Int)==0)=false:=by simp;omega
 obtain⟨y,hy⟩:=zE (l[ix]);obtain⟨q,hq,hqf⟩:∃q:Int,IntKind.i64.wrap ((n:Int)*5)=q/\fits q:=⟨_,rfl,a2d _⟩;have hR:OddR ne nf nw l ne nf nw (l.set ix { y with wt:=q }):=OddR.set hpl (λh=>by rw[hy]at h;exact⟨h.id,h.x,h.y,hqf,h.nm⟩) (λh=>by rw[hy]at h;exact h);obtain⟨c5,z5⟩:=hO.p.cellP oM hpl (i:=5) oM;rw[hy]at c5;replace c5:WD.cell? ⟨g,ix*7+5,none⟩=some _:=c5;have hX:=hO.p.setRow hpl (i:=5) (y:={ y with wt:=q }) (u:=(.int .i64 q)) oM (by rw[hy];rfl);rw[hm]at b3 hX;replace hm:=Lib.hid hm;clear hp0 hy hlp;go_upto_region 50 with fail;first|with_reducible refine a0f 9 zM zM ?_|with_reducible refine a0i 9 zM zM ?_
 simp only[zT];repeat(first|go_big_quiet_step (fail)|quiet_step (fail))
 refine wpQuiet_nil ?_;intro _ hw_;obtain⟨p,hw_⟩:=hw_;subst hw_;go_wp2_with fail;go_meet;subst hq;exact⟨_,_,_,_,_,_,_,_,_,⟨hX.up (Go.below_growBy _ _),hO.oe,hO.of,hO.ow⟩,hR⟩):P:=h
open odd10_anyK15 in
theorem b7g :a0z 15:=a1d
theorem odd10_anyK16.zCase {P:Prop}(h:P:=by
 obtain⟨q,hq,hq4⟩:∃q:Nat,Int.tmod (n:Int) 4=(q:Int)/\q<4:=⟨n % 4,by rw[Int.tmod_eq_emod_of_nonneg oM];omega,oM⟩;have hqe:(n:Int) % 4=(q:Int):=by rw[<-hq,Int.tmod_eq_emod_of_nonneg oM]
 have hqw:IntKind.i64.wrap (79+(q:Int))=((79+q:Nat):Int):=by rw[a0k oM oM];omega
 clear b0 b1 b2 b3;go_wp2_with fail;go_loopw [9] (λii wr=>∃(i:Nat) (pv':Value) (l':List Pc),i<=79+q/\ii= .int .i64 (i:Nat)/\OO w BO BR BQ BM q0 q1 q2 M0 S9 wr (.slice ea1 ne ec1) (.slice fa1 nf fc1) (.slice wa1 nw wc1) pv' ne nf nw l'/\l'.length=l.length+i/\OddR ne nf nw l ne nf nw l'/\a7x l'=a7x l) (λii _=>79+q-(intOf ii).toNat)
 case atStart=>exact⟨0,_,l,Nat.zero_le _,rfl,hO,rfl,OddR.refl _ _ _ _,rfl⟩
 case round =>
  obtain⟨i,pv',l',hi,rfl,hO',hll,hR,hnm⟩:=hrel;by_cases hlt:i<79+q
  ·have hltI:(i:Int)<((79+q:Nat):Int):=oM
   have hwi:IntKind.i64.wrap (1000+(i:Int))=1000+(i:Int):=a0k oM oM;have hwk:IntKind.i64.wrap ((i:Int)+1)=((i+1:Nat):Int):=by rw[a0k oM oM];omega
   have fx:fits (90+(i:Int) % 3):=⟨oM,oM⟩;have hlB:l'.length<=2000:=oM;replace hll:=Lib.hid hll;obtain⟨pa,pc,rfl,hpc⟩:=(a0h a4f hO'.p.row oM).form;obtain⟨d0,d1,d2,d3⟩:=a1v hO'.p.b.b0;go_wp2_with (first
    |(at_builtin;refine El.pushO a4f d5b qM _ _ qM qM hO'.p.row ⟨1000+(i:Int),90+(i:Int) % 3,110,⟨#[116,114,101,101]⟩,⟨#[]⟩,1,1⟩ qM rfl hO'.p.b.size oM ?_;intro v9 w9 hr9 hn9 hg9 hb9;have hP9:=hO'.p.more hr9 hg9 hn9;have d3:=hP9.b.b0.cell 3;have z3:=hP9.b.b0.frozen 3;obtain⟨a9,c9,rfl,-⟩:=(a0h a4f hr9 (by rw[List.length_append];simp;omega)).form))
   go_roundw
   case rel =>
    refine⟨i+1,_,_,oM,by go_num,⟨hP9.put rfl vM,hO'.oe,hO'.of,hO'.ow⟩,by rw[List.length_append,hll.out];rfl,⟨oM,oM,oM,by rw[List.length_append,hll.out];simp;omega,by rw[b3g,hnm];exact Nat.le_succ _,λh p hp=> ?_,λh p hp=> ?_⟩,by rw[b3g,hnm];rfl⟩
    ·rcases List.mem_append.1 hp with h1|h1
     ·exact hR.ok h p h1
     ·rw[List.mem_singleton]at h1
      subst h1;exact⟨⟨by show _<=1000+(i:Int);omega,by show 1000+(i:Int)<=_;omega⟩,fx,(by decide:fits 110),(by decide:fits 1),(by decide:0<=1000)⟩
    ·rcases List.mem_append.1 hp with h1|h1
     ·exact hR.cl h p h1
     ·rw[List.mem_singleton]at h1
      subst h1;exact(by decide:4<=1000)
   case measure=>simp[intOf];omega
  ·obtain rfl:i=79+q:=oM
   have hge:¬((79+q:Nat):Int)<((79+q:Nat):Int):=oM;go_wp2_with fail;go_meet;exact⟨_,_,_,_,_,_,_,_,_,hO',hR⟩):P:=h
open odd10_anyK16 in
theorem b7h :a0z 16:=a1d
theorem d0m (U:BS)(w:World)(ev fv wv pv:Value)(ne nf nw:Nat)(l:List Pc)(hI:MapI U w ev fv wv pv ne nf nw l)(q0 q1 q2:Int)(fq0:fits q0)(fq1:fits q1)(fq2:fits q2) :
 Calls prog 31 #[.agg #[ev,fv,wv,pv],.agg (qC q0 q1 q2)] w λe w'=>∃S' ev' fv' wv' pv' ne' nf' nw' l',e= .returned (.agg #[ev',fv',wv',pv'])/\MapR w.heap.size S' w' ev' fv' wv' pv' ne' nf' nw' l'/\OddR ne nf nw l ne' nf' nw' l'/\Ev noB noB w S' w':=by
 obtain⟨r,hr,hr17⟩:∃n:Nat,q0 % 17=(n:Int)/\n<17:=⟨(q0 % 17).toNat,oM,oM⟩;match r,hr17 with
 |0,_=>exact c0b U w ev fv wv pv ne nf nw l hI q0 q1 q2 fq0 fq1 fq2 hr
 |1,_=>exact c0c U w ev fv wv pv ne nf nw l hI q0 q1 q2 fq0 fq1 fq2 hr
 |2,_=>exact c0d U w ev fv wv pv ne nf nw l hI q0 q1 q2 fq0 fq1 fq2 hr
 |3,_=>exact c0e U w ev fv wv pv ne nf nw l hI q0 q1 q2 fq0 fq1 fq2 hr
 |4,_=>exact c0f U w ev fv wv pv ne nf nw l hI q0 q1 q2 fq0 fq1 fq2 hr
 |5,_=>exact c0g U w ev fv wv pv ne nf nw l hI q0 q1 q2 fq0 fq1 fq2 hr
 |6,_=>exact c0h U w ev fv wv pv ne nf nw l hI q0 q1 q2 fq0 fq1 fq2 hr
 |7,_=>exact c0i U w ev fv wv pv ne nf nw l hI q0 q1 q2 fq0 fq1 fq2 hr
 |8,_=>exact c0j U w ev fv wv pv ne nf nw l hI q0 q1 q2 fq0 fq1 fq2 hr
 |9,_=>exact c0k U w ev fv wv pv ne nf nw l hI q0 q1 q2 fq0 fq1 fq2 hr
 |10,_=>exact b7b U w ev fv wv pv ne nf nw l hI q0 q1 q2 fq0 fq1 fq2 hr
 |11,_=>exact b7c U w ev fv wv pv ne nf nw l hI q0 q1 q2 fq0 fq1 fq2 hr
 |12,_=>exact b7d U w ev fv wv pv ne nf nw l hI q0 q1 q2 fq0 fq1 fq2 hr
 |13,_=>exact b7e U w ev fv wv pv ne nf nw l hI q0 q1 q2 fq0 fq1 fq2 hr
 |14,_=>exact b7f U w ev fv wv pv ne nf nw l hI q0 q1 q2 fq0 fq1 fq2 hr
 |15,_=>exact b7g U w ev fv wv pv ne nf nw l hI q0 q1 q2 fq0 fq1 fq2 hr
 |16,_=>exact b7h U w ev fv wv pv ne nf nw l hI q0 q1 q2 fq0 fq1 fq2 hr
 |r+17,h=>omega
end
section
open Go Go.RowKit Go.Shelf Go.Lib
attribute [local go_sem] Oper.semAt_some
attribute [local go_sem ↓] Go.wp_at_zero Go.wp_at_succ
structure MapOk (W:World)(wv pv:Value)(l:List Pc)(ws:List Wy):Prop where
 p:Lst plE W.heap.size W pv l
 frm:Frm pv l.length
 len:l.length<=6
 ok:PlsOk l
 w:Wys W.heap.size W wv ws
 wl:ws.length<=100
 wo:∀y∈ws,fits y.id/\y.line.length<=100
theorem MapOk.up {W W':World}{wv pv:Value}{l:List Pc}{ws:List Wy}(h:MapOk W wv pv l ws)(hb:Below W.heap.size W W'):MapOk W' wv pv l ws :=
 ⟨h.p.up hb,h.frm,h.len,h.ok,h.w.up hb hb.size,h.wl,h.wo⟩
theorem Ev.low30 {S':BS}{W W':World}(h:Ev noB noB W S' W'):Below W.heap.size W W':=h.below (λ_ h=>h.elim) (λ_ h=>h.elim) (yR _)
abbrev b0u (rv:Value)(q0 q1 q2 b0 b1 b2 b3:Int)(r:Sh):Array Value:= #[rv,.int .i64 q0,.int .i64 q1,.int .i64 q2,.int .u8 b0,.int .u8 b1,.int .u8 b2,.int .u8 b3,.int .i64 r.ax,.int .i64 r.ay,.int .i64 r.st,.int .i64 r.w,.int .i64 r.h,.int .i64 r.g]
theorem MapI.up30 {U:BS}{W W':World}{ev fv wv pv:Value}{ne nf nw:Nat}{l:List Pc}(h:MapI U W ev fv wv pv ne nf nw l)(hb:Below W.heap.size W W'):MapI U W' ev fv wv pv ne nf nw l:=by
 have hsame:∀b,U b->W'.heap[b]? =W.heap[b]? :=λb hu=>hb.block b (h.tw.lt hu)
 have hsh:Shp U W W':=λb c e hu hc=>⟨c,(hsame b hu).trans hc,rfl⟩
 exact{ h with tw:=h.tw.of_same hsame,e:=h.e.mono (λ_ h=>h) hsh,f:=h.f.mono (λ_ h=>h) hsh,w:=h.w.mono (λ_ h=>h) hsh,p:=h.p.up hb }
def c3r (W:World)(B:Nat)(a b c d:Value):World:=(((W.setCell ⟨B,0,none⟩ a).setCell ⟨B,1,none⟩ b).setCell ⟨B,2,none⟩ c).setCell ⟨B,3,none⟩ d
def c6z (W:World)(B:Nat)(a b c d e f:Value):World:=(((((W.setCell ⟨B,0,none⟩ a).setCell ⟨B,1,none⟩ b).setCell ⟨B,2,none⟩ c).setCell ⟨B,3,none⟩ d).setCell ⟨B,4,none⟩ e).setCell ⟨B,5,none⟩ f
section
variable {W:World}{B A:Nat}{x y z u v s:Value}{k:Array Value}{t:TypeId}
theorem Blk.set4 (h:Blk W B #[x,y,z,u] t)(a b c d:Value):Blk (c3r W B a b c d) B #[a,b,c,d] t:=(((h.set 0 a).set 1 b).set 2 c).set 3 d
theorem Blk.set6 (h:Blk W B #[x,y,z,u,v,s] t)(a b c d e f:Value):Blk (c6z W B a b c d e f) B #[a,b,c,d,e,f] t:=(((((h.set 0 a).set 1 b).set 2 c).set 3 d).set 4 e).set 5 f
theorem Blk.not4 (h:Blk W A k t)(hn:A≠B)(a b c d:Value):Blk (c3r W B a b c d) A k t:=(((h.other hn 0 a).other hn 1 b).other hn 2 c).other hn 3 d
theorem Blk.not6 (h:Blk W A k t)(hn:A≠B)(a b c d e f:Value):Blk (c6z W B a b c d e f) A k t:=(((((h.other hn 0 a).other hn 1 b).other hn 2 c).other hn 3 d).other hn 4 e).other hn 5 f
theorem d8z {n:Nat}{w0:World}(h:Below n w0 W){B:Nat}(hB:n<=B)(a b c d:Value):Below n w0 (c3r W B a b c d):=(((h.setCell hB a).setCell hB b).setCell hB c).setCell hB d
theorem e0i {n:Nat}{w0:World}(h:Below n w0 W){B:Nat}(hB:n<=B)(a b c d e f:Value):Below n w0 (c6z W B a b c d e f):=(((((h.setCell hB a).setCell hB b).setCell hB c).setCell hB d).setCell hB e).setCell hB f
end
theorem a3k {W:World}{b B i:Nat}{v:Value}(h:b≠B):(W.setCell ⟨B,i,none⟩ v).heap[b]? =W.heap[b]? :=Below.heap_setCell _ _ _ _ h
theorem c5a {W W':World}{base:Nat}{e:TypeId}{s:Nat}{v:Value}{n:Nat}{xs:List Value}(h:W.ownsRow base e s v n xs)(hs:∀b,base<=b->b<W.heap.size->W'.heap[b]? =W.heap[b]?):W'.ownsRow base e s v n xs:=by
 refine⟨h.1,h.2.imp id ?_⟩;rintro⟨g,cap,cur,e1,h1,h2,h3⟩;exact⟨g,cap,cur,e1,h1,(hs g h1 (Array.getElem?_eq_some_iff.1 h2).1).trans h2,h3⟩
structure MdR (S2:BS)(nn BM:Nat)(ea fa wa pa:Option Addr)(ne ec nf fc nw wc pn pc:Nat)(l:List Pc)(rv:Value)(q0 q1 q2 b0 b1 b2 b3:Int)(raw:Sh)(W3 W:World):Prop where
 c:Blk W nn (b0u rv q0 q1 q2 b0 b1 b2 b3 raw) 30
 b:Blk W BM #[.slice ea ne ec,.slice fa nf fc,.slice wa nw wc,.slice pa pn pc] 37
 I:MapI S2 W (.slice ea ne ec) (.slice fa nf fc) (.slice wa nw wc) (.slice pa pn pc) ne nf nw l
 bel:Below W3.heap.size W3 W
 sz:W3.heap.size<=W.heap.size
 f0:fits q0
 f1:fits q1
 f2:fits q2
 h0:0<=b0/\b0<=255
 h1:0<=b1/\b1<=255
 h2:0<=b2/\b2<=255
 h3:0<=b3/\b3<=255
theorem MdR.up {S2:BS}{nn BM:Nat}{ea fa wa pa:Option Addr}{ne ec nf fc nw wc pn pc:Nat}{l:List Pc}{rv:Value}{q0 q1 q2 b0 b1 b2 b3:Int}{raw:Sh}{W3 W W':World}(h:MdR S2 nn BM ea fa wa pa ne ec nf fc nw wc pn pc l rv q0 q1 q2 b0 b1 b2 b3 raw W3 W)(hb:Below W.heap.size W W'):MdR S2 nn BM ea fa wa pa ne ec nf fc nw wc pn pc l rv q0 q1 q2 b0 b1 b2 b3 raw W3 W' :=
 { h with c:=h.c.below hb h.c.lt,b:=h.b.below hb h.b.lt,I:=h.I.up30 hb,bel:=h.bel.trans (hb.mono h.sz),sz:=Nat.le_trans h.sz hb.size }
theorem c5b {k i:Int}:∀(l:List Dt) (x:Dt),(∀d∈l,d.k=k/\d.i=i)->x.k=k->x.i=i->∀d∈a6k l x,d.k=k/\d.i=i
 |[],x,_,h1,h2=>λd hd=>by
  obtain rfl:d=x:=by simpa[a6k]using hd
  exact⟨h1,h2⟩
 |e::l,x,hl,h1,h2=>λd hd=>by
  have he:=hl e vM;have ih:=c5b l x (λd h=>hl d (by simp[h])) h1 h2;unfold a6k at hd;split at hd
  ·rcases List.mem_cons.1 hd with rfl|hd
   ·exact he
   ·exact ih d hd
  ·split at hd
   ·rcases List.mem_cons.1 hd with rfl|hd
    ·split
     ·exact⟨he.1,h2⟩
     ·exact he
    ·exact hl d (by simp[hd])
   ·rcases List.mem_cons.1 hd with rfl|hd
    ·exact⟨h1,h2⟩
    ·exact hl d hd
theorem d4k (id:Int)(ps:List a0m):∀d∈b3s id ps,d.k=3/\d.i=id:=by
 have h:∀(ps:List a0m) (l:List Dt),(∀d∈l,d.k=3/\d.i=id)->∀d∈ps.foldl (λl p=>a6k l ⟨p.1,p.2,3,id⟩) l,d.k=3/\d.i=id:=by
  intro ps;induction ps with
  |nil=>exact λl hl=>hl
  |cons p ps ih=>exact λl hl=>ih _ (c5b l _ hl rfl rfl)
 exact h ps [] vM
theorem d7g (s:Sh)(p:Pc):∀d∈(pfS s p).2,d.k=3/\d.i=p.id:=by
 unfold pfS plF;split
 ·exact d4k _ _
 ·simp
theorem c3s {a b c d:Int}{raw:Sh}(f0:fits raw.ax)(f1:fits raw.ay):fits (a6s a b c d raw).ax/\fits (a6s a b c d raw).ay:=by
 unfold a6s;split
 ·exact⟨f0,f1⟩
 ·exact⟨⟨by simp only;omega,by simp only;omega⟩,⟨by simp only;omega,by simp only;omega⟩⟩
section
variable {α:Type}{E:El α}{W:World}{n0:Nat}{a:Option Addr}{cap k:Nat}{l:List α}
theorem d0n (hL:Lst E n0 W (.slice a l.length cap) l)(hF:Frm (.slice a l.length cap) l.length)(hk:k<=l.length):Lst E n0 W (.slice a k cap) (l.take k)/\Frm (.slice a k cap) (l.take k).length:=by
 refine⟨hL.take k hk,?_⟩;rw[List.length_take,Nat.min_eq_left hk];rcases hF.or with⟨rfl,h0,rfl⟩|⟨b,o,rfl⟩
 ·obtain rfl:k=0:=oM
  exact .inl rfl
 ·exact .inr ⟨b,o,cap,rfl⟩
end
section
variable {P:Program}{α:Type}{E:El α}{st:TypeId}
end
end
end Go.Proofs.YtfocdbjceedagaaGreatDoor
