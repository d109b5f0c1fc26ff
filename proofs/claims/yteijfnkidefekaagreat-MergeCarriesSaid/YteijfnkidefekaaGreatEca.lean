/-
  Parts.
-/
import Derived.Test.YteijfnkidefekaaGreatEau
set_option linter.unusedVariables false
set_option linter.unusedSimpArgs false
set_option linter.unusedSectionVars false
set_option maxHeartbeats 60000000
set_option maxRecDepth 100000
namespace Go.Proofs.YteijfnkidefekaaGreat
open Tryz
section
open Go Go.RowKit Go.Shelf
theorem odd10_anyK14.zCase {P:Prop}(h:P:=by
 obtain⟨s,hs,vr⟩:=a4s k xM;obtain⟨q,hq,IZ⟩:∃q:Nat,Int.tmod (n:Int) 4=(q:Int)/\q<4:=⟨n % 4,by rw[Int.tmod_eq_emod_of_nonneg xM];omega,xM⟩;have lu:(n:Int) % 4=(q:Int):=by rw[<-hq,Int.tmod_eq_emod_of_nonneg xM]
 have Iw:(q:Int)<4:=xM;obtain⟨z,hz,hc⟩:∃z:Int,a0l z/\c7q[q]? =some (.int .i64 z):=by
  match q,IZ with
  |0,_=>exact⟨_,jM,rfl⟩
  |1,_=>exact⟨_,jM,rfl⟩
  |2,_=>exact⟨_,jM,rfl⟩
  |3,_=>exact⟨_,jM,rfl⟩
 have tS:∀W Z,Blk W Z c7q 3->W.cell? ⟨Z,q,none⟩=some (.int .i64 z):=λW Z h=>(h.cell q).trans hc
 have yB:=hO.oe;have we:=hO.of;have yC:=hO.ow;have hP:=hO.p;go_upto_region 47 with fail;clear hc hO i0 i1 i2 b0 b1 b2 b3;refine Go.wp_region_reln 24 zM zM (λ_ g W=>OP noB w g W [(BO,#[.slice rO ne rP,.slice vZ nf gJ,.slice iO nw gN,.slice jl l.length iP],32),(BR,mZ,32),(BQ,qC q0 q1 q2,119),(BM,M0,32)] [(71,.slice rO ne rP,ne),(43,.slice vZ nf gJ,nf),(46,.slice iO nw gN,nw)] (.slice jl l.length iP) l) (λg W g' W'=>Ev noB g W g' W') (FG14 BO n k q jl l iP s z) (λ_ _ _ _ _ _ h g=>h.kept g) S9 (hP.up (zR _ _).drew) ?_ ?_
 ·intro i o hi ho c bb g W hc hM hA hD K hK
  match i,hi,ho with
  |0,_,ho =>
   cases ho;have f5:=a0a (v:= .pointer (some ⟨BO,0,none⟩)) (hA.at_ (k:=5) zM);go_simp;exact hK (.pointer (some ⟨BO,3,none⟩)) g W rfl (Ev.refl hM.b.tw) hM
  |1,_,ho =>
   cases ho;have f309:=a0a (v:= .pointer (some ⟨BO,3,none⟩)) (a0e hD 0 309 zM rfl rfl);have z0:W.cell? ⟨BO,3,none⟩=some (.slice jl l.length iP):=hM.b.b0.cell 3;go_simp;exact hK (.slice jl l.length iP) g W rfl (Ev.refl hM.b.tw) hM
  |2,_,ho =>
   cases ho;go_simp;have hb:Below W.heap.size W (W.alloc (.cells c7q 3)):=(zR _ _).alloc (yR _) _;exact hK (.slice (some ⟨W.heap.size,0,none⟩) 4 4) g _ ⟨_,rfl,Blk.new _ _ _,λhs=>Nat.lt_irrefl _ (hM.b.tw.lt hs)⟩ (Ev.of_below hM.b.tw hb) (hM.up hb)
  |3,_,ho =>
   exact yaw
  |4,_,ho =>
   cases ho;have f312:=a0a (v:= .int .i64 (n:Nat)) (a0e hD 3 312 zM rfl rfl);go_simp;exact hK (.int .i64 (q:Nat)) g W rfl (Ev.refl hM.b.tw) hM
  |5,_,ho =>
   cases ho;have f311:=a0e hD 2 311 zM rfl rfl;have f313:=a0a (v:= .int .i64 (q:Nat)) (a0e hD 4 313 zM rfl rfl);obtain⟨Z,EX,EY,n311⟩:=f311;have f311:=a0a EX;go_simp;exact hK _ g W ⟨Z,rfl,EY,n311⟩ (Ev.refl hM.b.tw) hM
  |6,_,ho =>
   cases ho;have f314:=a0e hD 5 314 zM rfl rfl;obtain⟨Z,EZ,E1,n314⟩:=f314;have f314:=a0a EZ;have ct:=tS W Z E1;go_simp;exact hK (.int .i64 z) g W rfl (Ev.refl hM.b.tw) hM
  |7,_,ho =>
   exact yaw
  |8,_,ho =>
   cases ho;have f316:=a0a (v:= .int .i64 (n:Nat)) (a0e hD 7 316 zM rfl rfl);exact ybj
  |9,_,ho =>
   cases ho;have f315:=a0a (v:= .int .i64 z) (a0e hD 6 315 zM rfl rfl);have f317:=a0e hD 8 317 zM rfl rfl;obtain⟨MU,E3,MV⟩:=f317;have f317:=a0a E3;exact ybj
  |10,_,ho =>
   exact yaw
  |11,_,ho =>
   cases ho;have f319:=a0a (v:= .int .i64 (n:Nat)) (a0e hD 10 319 zM rfl rfl);exact ybj
  |12,_,ho =>
   cases ho;have f320:=a0e hD 11 320 zM rfl rfl;obtain⟨MW,E4,MX⟩:=f320;have f320:=a0a E4;exact ybj
  |13,_,ho =>
   exact ybk
  |14,_,ho =>
   cases ho;have f322:=a0a (v:= .int .i64 (k:Nat)) (a0e hD 13 322 zM rfl rfl);exact ybj
  |15,_,ho =>
   cases ho;have f323:=a0e hD 14 323 zM rfl rfl;obtain⟨MY,E5,MZ⟩:=f323;have f323:=a0a E5;exact ybj
  |16,_,ho =>
   cases ho;have f321:=a0e hD 12 321 zM rfl rfl;obtain⟨M4,E6,E7⟩:=f321;have f321:=a0a E6;have f324:=a0e hD 15 324 zM rfl rfl;obtain⟨M5,E8,E9⟩:=f324;have f324:=a0a E8;go_simp;exact hK _ g W ⟨_,_,rfl,E7,E9⟩ (Ev.refl hM.b.tw) hM
  |17,_,ho =>
   exact ybk
  |18,_,ho =>
   cases ho;have f326:=a0a (v:= .int .i64 (k:Nat)) (a0e hD 17 326 zM rfl rfl);exact yhd
  |19,_,ho =>
   exact yaw
  |20,_,ho =>
   cases ho;have f328:=a0a (v:= .int .i64 (n:Nat)) (a0e hD 19 328 zM rfl rfl);exact ybj
  |21,_,ho =>
   cases ho;have f329:=a0e hD 20 329 zM rfl rfl;obtain⟨M6,Fb,M9⟩:=f329;have f329:=a0a Fb;exact ybj
  |22,_,ho =>
   cases ho;have f318:=a0e hD 9 318 zM rfl rfl;obtain⟨Na,Fe,Ff⟩:=f318;have f318:=a0a Fe;have f325:=a0e hD 16 325 zM rfl rfl;have f327:=a0a (v:= .string s) (a0e hD 18 327 zM rfl rfl);have f330:=a0e hD 21 330 zM rfl rfl;obtain⟨Nb,Fg,Nc⟩:=f330;have f330:=a0a Fg;obtain⟨x9,y9,Fh,Nd,Nf⟩:=f325;have f325:=a0a Fh;go_simp;exact hK _ g W ⟨⟨_,_,_,_,_,_,_⟩,rfl,⟨Ff,Nd,Nf,(by decide:a0l 5),(show s.size<=1000 by omega)⟩,(by decide:4<=1000)⟩ (Ev.refl hM.b.tw) hM
  |23,_,ho =>
   cases ho;have f331:=a0e hD 22 331 zM rfl rfl;obtain⟨y,Fi,tV,wh⟩:=f331;obtain⟨i9,x9,y9,c9,n9,w9,d9⟩:=y;have f331:=a0a Fi;have hb:Below W.heap.size W (W.alloc (.cells #[.int .i64 i9,.int .i64 x9,.int .i64 y9,.string c9,.string n9,.int .i64 w9,.int .i64 d9] 48)):=(zR _ _).alloc (yR _) _;go_simp;exact hK (.slice (some ⟨W.heap.size,0,none⟩) 1 1) g _ ⟨_,⟨i9,x9,y9,c9,n9,w9,d9⟩,rfl,Blk.new _ _ _,λhs=>Nat.lt_irrefl _ (hM.b.tw.lt hs),tV,wh⟩ (Ev.of_below hM.b.tw hb) (hM.up hb)
  |i+24,hi,_=>exact absurd hi xM
 ·intro bb g W hM hA aa
  have h310:bb.eval (.tmp 310)= .slice jl l.length iP:=aa 1 xM _ _ rfl rfl;obtain⟨H,y,h332,Ng,-,tV,wh⟩:=(show ∃H y,bb.eval (.tmp 332)= .slice (some ⟨H,0,none⟩) 1 1/\Blk W H (plE.enc y).toArray 48/\¬g H/\PcOk y/\y.cls.size<=1000 from aa 23 xM _ _ rfl rfl);have az:=hA.frame (rT 309 (rF 24 (rT 41 ([])))) _ rfl zM;clear aa hA;obtain⟨f,hf⟩:=zDt bb;have yK:f 310= .slice jl l.length iP:=by rw[<-hf,<-h310];rfl
  have yL:f 332= .slice (some ⟨H,0,none⟩) 1 1:=by rw[<-hf,<-h332];rfl
  rw[hf]at az;clear hf h310 h332;subst az;simp only[rT,rF,a1j,yK,yL,Nat.reduceAdd];clear yK yL;simp only[zU];refine El.pushAt a2n b9t qM _ _ qM qM hM.row y qM Ng hM.b.size xM ?_;intro v9 w9 bG aU kJ;have hR:OddR ne nf nw l ne nf nw (l++[y]):=OddR.push tV wh;have yN:(l++[y]).length<=2000:=by rw[List.length_append];simp;omega
  obtain⟨l2,dC⟩:=zE (l++[y]);rw[dC]at bG hR yN;have cV:=hM.more bG aU kJ;have d3:=cV.b.b0.cell 3;have z3:=cV.b.b0.frozen 3;obtain⟨a9,c9,rfl,-⟩:=(a0g a2n bG xM).form;have hQ:=cV.put (i:=3) (v:= .slice a9 l2.length c9) rfl rfl;go_wp2_with fail
  all_goals go_meet
  all_goals exact⟨_,_,_,_,_,_,_,_,_,⟨hQ,yB,we,yC⟩,hR⟩):P:=h
open odd10_anyK14 in
theorem b1e :a0z 14:=a1c
theorem odd10_anyK15.zQ {P:Prop}(h:P:=by
  obtain⟨y,hy⟩:=zE (l[ix]);obtain⟨q,hq,wj⟩:∃q:Int,IntKind.i64.wrap ((n:Int)*5)=q/\a0l q:=⟨_,rfl,a2a _⟩;have hR:OddR ne nf nw l ne nf nw (l.set ix { y with wt:=q }):=OddR.set bY (λh=>by rw[hy]at h;exact⟨h.id,h.x,h.y,wj,h.nm⟩) (λh=>by rw[hy]at h;exact h);obtain⟨c5,z5⟩:=hO.p.cellP xM bY (i:=5) xM;rw[hy]at c5;replace c5:WD.cell? ⟨g,ix*7+5,none⟩=some _:=c5;have hX:=hO.p.setRow bY (i:=5) (y:={ y with wt:=q }) (u:=(.int .i64 q)) xM (by rw[hy];rfl);rw[hm]at b3 hX;replace hm:=Lib.hid hm;clear gW hy xd;go_upto_region 50 with fail;refine c5h λp=> ?_
  go_wp2_with fail;go_meet;subst hq;exact⟨_,_,_,_,_,_,_,_,_,⟨hX.up (Go.below_growBy _ _),hO.oe,hO.of,hO.ow⟩,hR⟩):P:=h
theorem odd10_anyK15.zCase {P:Prop}(h:P:=by exact zP0):P:=h
open odd10_anyK15 in
theorem b1f :a0z 15:=a1c
end
end Go.Proofs.YteijfnkidefekaaGreat
