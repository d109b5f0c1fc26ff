/-
  Parts.
-/
import Derived.Test.YtfocdbjceedagaaGreatDoorCas
set_option linter.unusedVariables false
set_option linter.unusedSimpArgs false
set_option maxHeartbeats 60000000
set_option maxRecDepth 100000
namespace Go.Proofs.YtfocdbjceedagaaGreatDoor
open Tryz
section
open Go Go.RowKit Go.Shelf
theorem odd10_anyK11.zQ {P:Prop}(h:P:=by
  obtain⟨y,hy⟩:=zE (l[ix]);obtain⟨q,hq⟩:∃q:Int,Int.tmod (n:Int) 18=q:=⟨_,rfl⟩;have hR:OddR ne nf nw l ne nf nw (l.set ix { y with ds:=q }):=OddR.set aO (λh=>by rw[hy]at h;exact⟨h.id,h.x,h.y,h.wt,h.nm⟩) (λh=>by rw[hy]at h;exact h);obtain⟨c5,z5⟩:=hO.p.cellP oM aO (i:=6) oM;rw[hy]at c5;replace c5:WD.cell? ⟨g,ix*7+6,none⟩=some _:=c5;have hX:=hO.p.setRow aO (i:=6) (y:={ y with ds:=q }) (u:=(.int .i64 q)) oM (by rw[hy];rfl);rw[hm]at b3 hX;replace hm:=Lib.hid hm;clear dz hy dZ;go_upto_region 39 with fail;refine zR3 λp=> ?_
  go_wp2_with fail;go_meet;subst hq;exact⟨_,_,_,_,_,_,_,_,_,⟨hX.up (Go.below_growBy _ _),hO.oe,hO.of,hO.ow⟩,hR⟩):P:=h
theorem odd10_anyK11.zCase {P:Prop}(h:P:=by exact zP0):P:=h
open odd10_anyK11 in
theorem b7v :a1d 11:=a1g
theorem odd10_anyK12.zQ {P:Prop}(h:P:=by
  obtain⟨y,hy⟩:=zE (l[ix]);obtain⟨s,hs,pQ⟩:=a7k n oM;have hR:OddR ne nf nw l ne nf nw (l.set ix { y with nm:=s }):=OddR.set aO (λh=>by rw[hy]at h;exact⟨h.id,h.x,h.y,h.wt,show s.size<=1000 from by omega⟩) (λh=>by rw[hy]at h;exact h);obtain⟨c5,z5⟩:=hO.p.cellP oM aO (i:=4) oM;rw[hy]at c5;replace c5:WD.cell? ⟨g,ix*7+4,none⟩=some _:=c5;have hX:=hO.p.setRow aO (i:=4) (y:={ y with nm:=s }) (u:=(.string s)) oM (by rw[hy];rfl);rw[hm]at b3 hX;replace hm:=Lib.hid hm;clear dz hy dZ;go_upto_region 42 with fail;refine zR6 λp=> ?_
  go_wp2_with fail;go_meet;exact⟨_,_,_,_,_,_,_,_,_,⟨hX.up (Go.below_growBy _ _),hO.oe,hO.of,hO.ow⟩,hR⟩):P:=h
theorem odd10_anyK12.zCase {P:Prop}(h:P:=by exact zP0):P:=h
open odd10_anyK12 in
theorem b7w :a1d 12:=a1g
theorem odd10_anyK13.zQ {P:Prop}(h:P:=by
  have gC:IntKind.i64.wrap ((ix:Int)+1)=(ix:Int)+1:=a0j oM oM;have ot:(ix:Int)+1<=(m:Int):=oM;have Ao:((ix:Int)+1).toNat=ix+1:=oM;have D8:(ix:Int)<=(j6:Int):=oM;have hR:OddR ne nf nw l ne nf nw (l.take ix++l.drop (ix+1)):=OddR.del aO;have aR:(l.take ix).length=ix:=by rw[List.length_take];omega
  rw[hm]at b3;replace hm:=Lib.hid hm;clear dz dZ;go_upto_region 45 with fail;refine zR8 λp=> ?_
  have eR:=hO.p.up (Go.below_growBy WD p);have hL:=a0d a4f eR.row oM;have hF:=a7l eR.row;have hT:=a9o (k:=ix+1) hL hF oM;rw[hm.out]at hT;have e1:Option.map (λx=>Addr.add x ((ix+1)*plE.s)) (some (⟨g,0,none⟩:Addr))=some ⟨g,(ix+1)*7,none⟩:=by simp[Addr.add,plE]
  rw[e1]at hT;refine El.joinO (n0:=(WD.growBy p).heap.size) a4f d7c qM _ _ qM w.heap.size qM (l.take ix) (d6i eR.row oM) ⟨_,_,by rw[aR]⟩ (l.drop (ix+1)) qM ?hx ?hf (by rw[List.length_take,List.length_drop];omega) eR.b.size ?_
  case hx=>exact yjs
  case hf=>exact yjt
  rintro v9 w9 aU bD⟨g9,c9,rfl⟩ o8;obtain⟨l2,du⟩:=zE (l.take ix++l.drop (ix+1));rw[du]at aU hR;simp only[du];have bE:=eR.more aU bD o8;have d3:=bE.b.b0.cell 3;have z3:=bE.b.b0.frozen 3;have hQ:=bE.put (i:=3) (v:= .slice (some ⟨g9,0,none⟩) l2.length c9) rfl rfl;go_wp2_with fail
  all_goals go_meet
  all_goals exact⟨_,_,_,_,_,_,_,_,_,⟨hQ,hO.oe,hO.of,hO.ow⟩,hR⟩):P:=h
theorem odd10_anyK13.zCase {P:Prop}(h:P:=by exact zP0):P:=h
open odd10_anyK13 in
theorem b7x :a1d 13:=a1g
theorem odd10_anyK14.zCase {P:Prop}(h:P:=by
 obtain⟨s,hs,pQ⟩:=a7k k oM;obtain⟨q,hq,MZ⟩:∃q:Nat,Int.tmod (n:Int) 4=(q:Int)/\q<4:=⟨n % 4,by rw[Int.tmod_eq_emod_of_nonneg oM];omega,oM⟩;have tX:(n:Int) % 4=(q:Int):=by rw[<-hq,Int.tmod_eq_emod_of_nonneg oM]
 have L0:(q:Int)<4:=oM;obtain⟨z,hz,hc⟩:∃z:Int,fits z/\e1o[q]? =some (.int .i64 z):=by
  match q,MZ with
  |0,_=>exact⟨_,jM,rfl⟩
  |1,_=>exact⟨_,jM,rfl⟩
  |2,_=>exact⟨_,jM,rfl⟩
  |3,_=>exact⟨_,jM,rfl⟩
 have iS:∀W Z,Blk W Z e1o 3->W.cell? ⟨Z,q,none⟩=some (.int .i64 z):=λW Z h=>(h.cell q).trans hc
 have Ee:=hO.oe;have AP:=hO.of;have Ef:=hO.ow;have hP:=hO.p;go_upto_region 47 with fail;clear hc hO i0 i1 i2 b0 b1 b2 b3;refine Go.wp_region_reln 24 zM zM (λ_ g W=>OP noB w g W [(BO,#[.slice vQ ne vR,.slice AN nf js,.slice j5 nw jv,.slice lz l.length j6],37),(BR,mZ,37),(BQ,qC q0 q1 q2,23),(BM,M0,37)] [(206,.slice vQ ne vR,ne),(140,.slice AN nf js,nf),(149,.slice j5 nw jv,nw)] (.slice lz l.length j6) l) (λg W g' W'=>Ev noB g W g' W') (FG14 BO n k q lz l j6 s z) (λ_ _ _ _ _ _ h g=>h.kept g) S9 (hP.up (zR _ _).drew) ?_ ?_
 ·intro i o hi ho c bb g W hc hM hA hD K hK
  match i,hi,ho with
  |0,_,ho =>
   cases ho;have f5:=a0a (v:= .pointer (some ⟨BO,0,none⟩)) (hA.at_ (k:=5) zM);go_simp;exact hK (.pointer (some ⟨BO,3,none⟩)) g W rfl (Ev.refl hM.b.tw) hM
  |1,_,ho =>
   cases ho;have f309:=a0a (v:= .pointer (some ⟨BO,3,none⟩)) (a0f hD 0 309 zM rfl rfl);have z0:W.cell? ⟨BO,3,none⟩=some (.slice lz l.length j6):=hM.b.b0.cell 3;go_simp;exact hK (.slice lz l.length j6) g W rfl (Ev.refl hM.b.tw) hM
  |2,_,ho =>
   cases ho;go_simp;have hb:Below W.heap.size W (W.alloc (.cells e1o 3)):=(zR _ _).alloc (yR _) _;exact hK (.slice (some ⟨W.heap.size,0,none⟩) 4 4) g _ ⟨_,rfl,Blk.new _ _ _,λhs=>Nat.lt_irrefl _ (hM.b.tw.lt hs)⟩ (Ev.of_below hM.b.tw hb) (hM.up hb)
  |3,_,ho =>
   exact yba
  |4,_,ho =>
   cases ho;have f312:=a0a (v:= .int .i64 (n:Nat)) (a0f hD 3 312 zM rfl rfl);go_simp;exact hK (.int .i64 (q:Nat)) g W rfl (Ev.refl hM.b.tw) hM
  |5,_,ho =>
   cases ho;have f311:=a0f hD 2 311 zM rfl rfl;have f313:=a0a (v:= .int .i64 (q:Nat)) (a0f hD 4 313 zM rfl rfl);obtain⟨Z,J0,J1,n311⟩:=f311;have f311:=a0a J0;go_simp;exact hK _ g W ⟨Z,rfl,J1,n311⟩ (Ev.refl hM.b.tw) hM
  |6,_,ho =>
   cases ho;have f314:=a0f hD 5 314 zM rfl rfl;obtain⟨Z,J2,J3,n314⟩:=f314;have f314:=a0a J2;have ct:=iS W Z J3;go_simp;exact hK (.int .i64 z) g W rfl (Ev.refl hM.b.tw) hM
  |7,_,ho =>
   exact yba
  |8,_,ho =>
   cases ho;have f316:=a0a (v:= .int .i64 (n:Nat)) (a0f hD 7 316 zM rfl rfl);exact ybo
  |9,_,ho =>
   cases ho;have f315:=a0a (v:= .int .i64 z) (a0f hD 6 315 zM rfl rfl);have f317:=a0f hD 8 317 zM rfl rfl;obtain⟨Rs,J4,Rt⟩:=f317;have f317:=a0a J4;exact ybo
  |10,_,ho =>
   exact yba
  |11,_,ho =>
   cases ho;have f319:=a0a (v:= .int .i64 (n:Nat)) (a0f hD 10 319 zM rfl rfl);exact ybo
  |12,_,ho =>
   cases ho;have f320:=a0f hD 11 320 zM rfl rfl;obtain⟨Ru,J5,Rv⟩:=f320;have f320:=a0a J5;exact ybo
  |13,_,ho =>
   exact ybq
  |14,_,ho =>
   cases ho;have f322:=a0a (v:= .int .i64 (k:Nat)) (a0f hD 13 322 zM rfl rfl);exact ybo
  |15,_,ho =>
   cases ho;have f323:=a0f hD 14 323 zM rfl rfl;obtain⟨Rw,J6,Rx⟩:=f323;have f323:=a0a J6;exact ybo
  |16,_,ho =>
   cases ho;have f321:=a0f hD 12 321 zM rfl rfl;obtain⟨Ry,J7,J8⟩:=f321;have f321:=a0a J7;have f324:=a0f hD 15 324 zM rfl rfl;obtain⟨Rz,J9,Ka⟩:=f324;have f324:=a0a J9;go_simp;exact hK _ g W ⟨_,_,rfl,J8,Ka⟩ (Ev.refl hM.b.tw) hM
  |17,_,ho =>
   exact ybq
  |18,_,ho =>
   cases ho;have f326:=a0a (v:= .int .i64 (k:Nat)) (a0f hD 17 326 zM rfl rfl);exact yhu
  |19,_,ho =>
   exact yba
  |20,_,ho =>
   cases ho;have f328:=a0a (v:= .int .i64 (n:Nat)) (a0f hD 19 328 zM rfl rfl);exact ybo
  |21,_,ho =>
   cases ho;have f329:=a0f hD 20 329 zM rfl rfl;obtain⟨RA,Kb,RD⟩:=f329;have f329:=a0a Kb;exact ybo
  |22,_,ho =>
   cases ho;have f318:=a0f hD 9 318 zM rfl rfl;obtain⟨RE,Kc,Kd⟩:=f318;have f318:=a0a Kc;have f325:=a0f hD 16 325 zM rfl rfl;have f327:=a0a (v:= .string s) (a0f hD 18 327 zM rfl rfl);have f330:=a0f hD 21 330 zM rfl rfl;obtain⟨RF,Kf,RG⟩:=f330;have f330:=a0a Kf;obtain⟨x9,y9,Kg,RH,RI⟩:=f325;have f325:=a0a Kg;go_simp;exact hK _ g W ⟨⟨_,_,_,_,_,_,_⟩,rfl,⟨Kd,RH,RI,(by decide:fits 5),(show s.size<=1000 by omega)⟩,(by decide:4<=1000)⟩ (Ev.refl hM.b.tw) hM
  |23,_,ho =>
   cases ho;have f331:=a0f hD 22 331 zM rfl rfl;obtain⟨y,Kh,Ki,Kj⟩:=f331;obtain⟨i9,x9,y9,c9,n9,w9,d9⟩:=y;have f331:=a0a Kh;have hb:Below W.heap.size W (W.alloc (.cells #[.int .i64 i9,.int .i64 x9,.int .i64 y9,.string c9,.string n9,.int .i64 w9,.int .i64 d9] 66)):=(zR _ _).alloc (yR _) _;go_simp;exact hK (.slice (some ⟨W.heap.size,0,none⟩) 1 1) g _ ⟨_,⟨i9,x9,y9,c9,n9,w9,d9⟩,rfl,Blk.new _ _ _,λhs=>Nat.lt_irrefl _ (hM.b.tw.lt hs),Ki,Kj⟩ (Ev.of_below hM.b.tw hb) (hM.up hb)
  |i+24,hi,_=>exact absurd hi oM
 ·intro bb g W hM hA ah
  have h310:bb.eval (.tmp 310)= .slice lz l.length j6:=ah 1 oM _ _ rfl rfl;obtain⟨H,y,h332,pR,-,Ki,Kj⟩:=(show ∃H y,bb.eval (.tmp 332)= .slice (some ⟨H,0,none⟩) 1 1/\Blk W H (plE.enc y).toArray 66/\¬g H/\PcOk y/\y.cls.size<=1000 from ah 23 oM _ _ rfl rfl);have aC:=hA.frame (rT 309 (rF 24 (rT 41 ([])))) _ rfl zM;clear ah hA;obtain⟨f,hf⟩:=zDt bb;have Ek:f 310= .slice lz l.length j6:=by rw[<-hf,<-h310];rfl
  have Em:f 332= .slice (some ⟨H,0,none⟩) 1 1:=by rw[<-hf,<-h332];rfl
  rw[hf]at aC;clear hf h310 h332;subst aC;simp only[rT,rF,a2d,Ek,Em,Nat.reduceAdd];clear Ek Em;simp only[zU];refine El.pushAt a4f d7c qM _ _ qM qM hM.row y qM pR hM.b.size oM ?_;intro v9 w9 aU bD o8;have hR:OddR ne nf nw l ne nf nw (l++[y]):=OddR.push Ki Kj;have mN:(l++[y]).length<=2000:=by rw[List.length_append];simp;omega
  obtain⟨l2,du⟩:=zE (l++[y]);rw[du]at aU hR mN;have bE:=hM.more aU bD o8;have d3:=bE.b.b0.cell 3;have z3:=bE.b.b0.frozen 3;obtain⟨a9,c9,rfl,-⟩:=(a0d a4f aU oM).form;have hQ:=bE.put (i:=3) (v:= .slice a9 l2.length c9) rfl rfl;go_wp2_with fail
  all_goals go_meet
  all_goals exact⟨_,_,_,_,_,_,_,_,_,⟨hQ,Ee,AP,Ef⟩,hR⟩):P:=h
open odd10_anyK14 in
theorem b7y :a1d 14:=a1g
theorem odd10_anyK15.zQ {P:Prop}(h:P:=by
  obtain⟨y,hy⟩:=zE (l[ix]);obtain⟨q,hq,RJ⟩:∃q:Int,IntKind.i64.wrap ((n:Int)*5)=q/\fits q:=⟨_,rfl,a2o _⟩;have hR:OddR ne nf nw l ne nf nw (l.set ix { y with wt:=q }):=OddR.set aO (λh=>by rw[hy]at h;exact⟨h.id,h.x,h.y,RJ,h.nm⟩) (λh=>by rw[hy]at h;exact h);obtain⟨c5,z5⟩:=hO.p.cellP oM aO (i:=5) oM;rw[hy]at c5;replace c5:WD.cell? ⟨g,ix*7+5,none⟩=some _:=c5;have hX:=hO.p.setRow aO (i:=5) (y:={ y with wt:=q }) (u:=(.int .i64 q)) oM (by rw[hy];rfl);rw[hm]at b3 hX;replace hm:=Lib.hid hm;clear dz hy dZ;go_upto_region 50 with fail;refine zR3 λp=> ?_
  go_wp2_with fail;go_meet;subst hq;exact⟨_,_,_,_,_,_,_,_,_,⟨hX.up (Go.below_growBy _ _),hO.oe,hO.of,hO.ow⟩,hR⟩):P:=h
theorem odd10_anyK15.zCase {P:Prop}(h:P:=by exact zP0):P:=h
open odd10_anyK15 in
theorem b7z :a1d 15:=a1g
theorem odd10_anyK16.zCase {P:Prop}(h:P:=by
 obtain⟨q,hq,MZ⟩:∃q:Nat,Int.tmod (n:Int) 4=(q:Int)/\q<4:=⟨n % 4,by rw[Int.tmod_eq_emod_of_nonneg oM];omega,oM⟩;have tX:(n:Int) % 4=(q:Int):=by rw[<-hq,Int.tmod_eq_emod_of_nonneg oM]
 have UX:IntKind.i64.wrap (79+(q:Int))=((79+q:Nat):Int):=by rw[a0j oM oM];omega
 clear b0 b1 b2 b3;go_wp2_with fail;go_loopw [9] (λii wr=>∃(i:Nat) (mJ:Vu) (l':List Pc),i<=79+q/\ii= .int .i64 (i:Nat)/\OO w BO BR BQ BM q0 q1 q2 M0 S9 wr (.slice vQ ne vR) (.slice AN nf js) (.slice j5 nw jv) mJ ne nf nw l'/\l'.length=l.length+i/\OddR ne nf nw l ne nf nw l'/\a8l l'=a8l l) (λii _=>79+q-(intOf ii).toNat)
 case atStart=>exact⟨0,_,l,Nat.zero_le _,rfl,hO,rfl,OddR.refl _ _ _ _,rfl⟩
 case round =>
  obtain⟨i,mJ,l',hi,rfl,gY,im,hR,rh⟩:=hrel;by_cases ag:i<79+q
  ·have aA:(i:Int)<((79+q:Nat):Int):=oM
   have FT:IntKind.i64.wrap (1000+(i:Int))=1000+(i:Int):=a0j oM oM;have tV:IntKind.i64.wrap ((i:Int)+1)=((i+1:Nat):Int):=by rw[a0j oM oM];omega
   have fx:fits (90+(i:Int) % 3):=⟨oM,oM⟩;have UY:l'.length<=2000:=oM;replace im:=Lib.hid im;obtain⟨pa,pc,rfl,ie⟩:=(a0d a4f gY.p.row oM).form;obtain⟨d0,d1,d2,d3⟩:=a2c gY.p.b.b0;go_wp2_with (first
    |(at_builtin;refine El.pushO a4f d7c qM _ _ qM qM gY.p.row ⟨1000+(i:Int),90+(i:Int) % 3,110,⟨#[116,114,101,101]⟩,⟨#[]⟩,1,1⟩ qM rfl gY.p.b.size oM ?_;intro v9 w9 aU o8 bD br;have bE:=gY.p.more aU bD o8;have d3:=bE.b.b0.cell 3;have z3:=bE.b.b0.frozen 3;obtain⟨a9,c9,rfl,-⟩:=(a0d a4f aU (by rw[List.length_append];simp;omega)).form))
   go_roundw
   case rel =>
    refine⟨i+1,_,_,oM,by go_num,⟨bE.put rfl vM,gY.oe,gY.of,gY.ow⟩,by rw[List.length_append,im.out];rfl,⟨oM,oM,oM,by rw[List.length_append,im.out];simp;omega,by rw[b4c,rh];exact Nat.le_succ _,λh p hp=> ?_,λh p hp=> ?_⟩,by rw[b4c,rh];rfl⟩
    ·rcases List.mem_append.1 hp with h1|h1
     ·exact hR.ok h p h1
     ·rw[List.mem_singleton]at h1
      subst h1;exact⟨⟨by show _<=1000+(i:Int);omega,by show 1000+(i:Int)<=_;omega⟩,fx,(by decide:fits 110),(by decide:fits 1),(by decide:0<=1000)⟩
    ·rcases List.mem_append.1 hp with h1|h1
     ·exact hR.cl h p h1
     ·rw[List.mem_singleton]at h1
      subst h1;exact(by decide:4<=1000)
   case measure=>simp[intOf];omega
  ·obtain rfl:i=79+q:=oM
   have aY:¬((79+q:Nat):Int)<((79+q:Nat):Int):=oM;go_wp2_with fail;go_meet;exact⟨_,_,_,_,_,_,_,_,_,gY,hR⟩):P:=h
open odd10_anyK16 in
theorem b8a :a1d 16:=a1g
end
end Go.Proofs.YtfocdbjceedagaaGreatDoor
