/-
  Parts.
-/
import Derived.Test.YtfocdbjceedagaaGreatDoorMba
set_option linter.unusedVariables false
set_option linter.unusedSimpArgs false
set_option maxHeartbeats 60000000
set_option maxRecDepth 100000
namespace Go.Proofs.YtfocdbjceedagaaGreatDoor
open Tryz
section
open Go Go.RowKit Go.Shelf
attribute [local go_sem] Oper.semAt_some
attribute [local go_sem ↓] Go.wp_at_zero Go.wp_at_succ
theorem odd10_anyK1.zCase {P:Prop}(h:P:=by
 by_cases hf0:nf=0
 ·subst hf0
  exact yba
 obtain⟨p,hp,hpf⟩:∃p:Nat,Int.tmod (k:Int) (nf:Int)=(p:Int)/\p<nf:=⟨k % nf,by rw[Int.tmod_eq_emod_of_nonneg oM];omega,Nat.mod_lt _ oM⟩;have hpI:(p:Int)<(nf:Int):=oM;have hfI:(0:Int)<(nf:Int):=oM;have hfI2:((nf:Int)==0)=false:=by simpa using hf0
 obtain⟨fb,fo,fc',heq,hfc',-⟩:=hO.p.b.s1.some_ oM
 cases heq;obtain⟨id,cs,ns,wt,ds,c0,c1,c2,c3,c4,f0,f1,f2,f3,f4⟩:=SL.face5 hO.p.b.tw hO.p.b.s1 hpf;have hst:=λi ct h u hu=>hO.p.store a1l hO.p.b.s1 hO.of p i ct h u hu
 obtain⟨q,hq,hq5⟩:∃q:Nat,Int.tmod (n:Int) 5=(q:Int)/\q<5:=⟨n % 5,by rw[Int.tmod_eq_emod_of_nonneg oM];omega,oM⟩;have hqe:(n:Int) % 5=(q:Int):=by rw[<-hq,Int.tmod_eq_emod_of_nonneg oM]
 have hqI:(q:Int)<5:=oM;obtain⟨s,hs,hc⟩:∃s:ByteArray,s.size<=30/\(#[.string ⟨#[]⟩,.string ⟨#[70,105,101,108,100]⟩,.string ⟨#[119,111,111,100]⟩,.string ⟨#[97,98,99,100,101,102,103,104,105,106,107,108,109]⟩,.string ⟨#[108,97,107,101]⟩]:Array Value)[q]? =some (.string s):=by
  match q,hq5 with
  |0,_=>exact⟨_,jM,rfl⟩
  |1,_=>exact⟨_,jM,rfl⟩
  |2,_=>exact⟨_,jM,rfl⟩
  |3,_=>exact⟨_,jM,rfl⟩
  |4,_=>exact⟨_,jM,rfl⟩
 have hpt:∀W Z,Blk W Z d9h 9->W.cell? ⟨Z,q,none⟩=some (.string s):=λW Z h=>(h.cell q).trans hc
 have hOe:=hO.oe;have hOf:=hO.of;have hOw:=hO.ow;have hP:=hO.p;go_upto_region 9 with fail;clear hst hc hO c0 c1 c2 c3 c4 i0 i1 i2 b0 b1 b2 b3;refine Go.wp_region_reln 12 zM zM (λ_ g W=>OP noB w g W [(BO,#[.slice ea1 ne ec1,.slice (some ⟨fb,fo,none⟩) nf fc1,.slice wa1 nw wc1,.slice pa1 l.length pc1],37),(BR,mZ,37),(BQ,qC q0 q1 q2,23),(BM,M0,37)] [(206,.slice ea1 ne ec1,ne),(140,.slice (some ⟨fb,fo,none⟩) nf fc1,nf),(149,.slice wa1 nw wc1,nw)] (.slice pa1 l.length pc1) l) (λg W g' W'=>Ev noB g W g' W') (FG1 BO k n p q nf fb fo fc1 s) (λ_ _ _ _ _ _ h g=>h.kept g) S9 (hP.up (zR _ _).drew) ?_ ?_
 ·intro i o hi ho c bb g W hc hM hA hD K hK
  match i,hi,ho with
  |0,_,ho =>
   exact yfv
  |1,_,ho =>
   cases ho;have f49:=a0a (v:= .pointer (some ⟨BO,1,none⟩)) (a0d hD 0 49 zM rfl rfl);exact yfi
  |2,_,ho =>
   exact ybj
  |3,_,ho =>
   exact yfv
  |4,_,ho =>
   cases ho;have f52:=a0a (v:= .pointer (some ⟨BO,1,none⟩)) (a0d hD 3 52 zM rfl rfl);exact yfi
  |5,_,ho =>
   cases ho;have f53:=a0a (v:= .slice (some ⟨fb,fo,none⟩) nf fc1) (a0d hD 4 53 zM rfl rfl);go_simp;exact hK (.int .i64 (nf:Nat)) g W rfl (Ev.refl hM.b.tw) hM
  |6,_,ho =>
   cases ho;have f51:=a0a (v:= .int .i64 (k:Nat)) (a0d hD 2 51 zM rfl rfl);have f54:=a0a (v:= .int .i64 (nf:Nat)) (a0d hD 5 54 zM rfl rfl);go_simp;exact hK (.int .i64 (p:Nat)) g W rfl (Ev.refl hM.b.tw) hM
  |7,_,ho =>
   cases ho;go_simp;have hb:Below W.heap.size W (W.alloc (.cells d9h 9)):=(zR _ _).alloc (yR _) _;exact hK (.slice (some ⟨W.heap.size,0,none⟩) 5 5) g _ ⟨_,rfl,Blk.new _ _ _,λhs=>Nat.lt_irrefl _ (hM.b.tw.lt hs)⟩ (Ev.of_below hM.b.tw hb) (hM.up hb)
  |8,_,ho =>
   exact yau
  |9,_,ho =>
   cases ho;have f57:=a0a (v:= .int .i64 (n:Nat)) (a0d hD 8 57 zM rfl rfl);go_simp;exact hK (.int .i64 (q:Nat)) g W rfl (Ev.refl hM.b.tw) hM
  |10,_,ho =>
   cases ho;have f56:=a0d hD 7 56 zM rfl rfl;have f58:=a0a (v:= .int .i64 (q:Nat)) (a0d hD 9 58 zM rfl rfl);obtain⟨Z,e56,b56,n56⟩:=f56;have f56:=a0a e56;go_simp;exact hK _ g W ⟨Z,rfl,b56,n56⟩ (Ev.refl hM.b.tw) hM
  |11,_,ho =>
   cases ho;have f59:=a0d hD 10 59 zM rfl rfl;obtain⟨Z,e59,b59,n59⟩:=f59;have f59:=a0a e59;have ct:=hpt W Z b59;go_simp;exact hK (.string s) g W rfl (Ev.refl hM.b.tw) hM
  |i+12,hi,_=>exact absurd hi oM
 ·intro bb g W hM hA hall
  have h50:bb.eval (.tmp 50)= .slice (some ⟨fb,fo,none⟩) nf fc1:=hall 1 oM _ _ rfl rfl;have h55:bb.eval (.tmp 55)= .int .i64 (p:Nat):=hall 6 oM _ _ rfl rfl;have h60:bb.eval (.tmp 60)= .string s:=hall 11 oM _ _ rfl rfl;have hfr:=hA.frame (rT 49 (rF 12 (rT 313 ([])))) _ rfl zM;clear hall hA;obtain⟨f,hf⟩:∃f:Nat->Value,(λk=>bb.tmps.getD k undef)=f:=⟨_,rfl⟩;have g50:f 50= .slice (some ⟨fb,fo,none⟩) nf fc1:=by rw[<-hf,<-h50];rfl
  have g55:f 55= .int .i64 (p:Nat):=by rw[<-hf,<-h55];rfl
  have g60:f 60= .string s:=by rw[<-hf,<-h60];rfl
  rw[hf]at hfr;clear hf h50 h55 h60;subst hfr;simp only[rT,rF,a1z,g50,g55,g60,Nat.reduceAdd];clear g50 g55 g60;simp only[zU];obtain⟨id',cs',ns',wt',ds',d0,d1,d2,d3,d4,-⟩:=SL.face5 hM.b.tw hM.b.s1 hpf;obtain⟨hX,z9⟩:=hM.store a1l hM.b.s1 hOf p 1 .str rfl (.string s) (CT.ok_str hs);go_wp2_with fail;go_meet;exact⟨_,_,_,_,_,_,_,_,_,⟨hX,hOe,hOf,hOw⟩,OddR.refl _ _ _ _⟩):P:=h
open odd10_anyK1 in
theorem c0c :a0z 1:=a1d
theorem odd10_anyK2.zCase {P:Prop}(h:P:=by
 by_cases hf0:nf=0
 ·subst hf0
  exact yba
 obtain⟨p,hp,hpf⟩:∃p:Nat,Int.tmod (k:Int) (nf:Int)=(p:Int)/\p<nf:=⟨k % nf,by rw[Int.tmod_eq_emod_of_nonneg oM];omega,Nat.mod_lt _ oM⟩;have hpI:(p:Int)<(nf:Int):=oM;have hfI:(0:Int)<(nf:Int):=oM;have hfI2:((nf:Int)==0)=false:=by simpa using hf0
 obtain⟨fb,fo,fc',heq,hfc',-⟩:=hO.p.b.s1.some_ oM
 cases heq;obtain⟨id,cs,ns,wt,ds,c0,c1,c2,c3,c4,f0,f1,f2,f3,f4⟩:=SL.face5 hO.p.b.tw hO.p.b.s1 hpf;have hst:=λi ct h u hu=>hO.p.store a1l hO.p.b.s1 hO.of p i ct h u hu
 obtain⟨s,hs,htx⟩:=a6x n oM;have z9:WD.frozen? ⟨fb,fo+p*5+2,none⟩=false:=(hst 2 .str rfl (.string ⟨#[]⟩) (CT.ok_str jM)).2;have hX:=λu hu=>(hst 2 .str rfl u hu).1
 clear hst;go_upto_region 12 with fail;first|with_reducible refine a0f 9 zM zM ?_|with_reducible refine a0i 9 zM zM ?_
 simp only[zT];repeat(first|go_big_quiet_step ((go_at_call 79;exact Calls.grow_of (htx _)))|quiet_step ((go_at_call 79;exact Calls.grow_of (htx _))))
 refine wpQuiet_nil ?_;intro _ hw_;obtain⟨p,hw_⟩:=hw_;subst hw_;go_wp2_with fail;go_meet;exact⟨_,_,_,_,_,_,_,_,_,⟨(hX _ (CT.ok_str hs)).up (Go.below_growBy _ _),hO.oe,hO.of,hO.ow⟩,OddR.refl _ _ _ _⟩):P:=h
open odd10_anyK2 in
theorem c0d :a0z 2:=a1d
theorem odd10_anyK3.zCase {P:Prop}(h:P:=by
 by_cases hf0:nf=0
 ·subst hf0
  exact yba
 obtain⟨p,hp,hpf⟩:∃p:Nat,Int.tmod (k:Int) (nf:Int)=(p:Int)/\p<nf:=⟨k % nf,by rw[Int.tmod_eq_emod_of_nonneg oM];omega,Nat.mod_lt _ oM⟩;have hpI:(p:Int)<(nf:Int):=oM;have hfI:(0:Int)<(nf:Int):=oM;have hfI2:((nf:Int)==0)=false:=by simpa using hf0
 obtain⟨fb,fo,fc',heq,hfc',-⟩:=hO.p.b.s1.some_ oM
 cases heq;obtain⟨id,cs,ns,wt,ds,c0,c1,c2,c3,c4,f0,f1,f2,f3,f4⟩:=SL.face5 hO.p.b.tw hO.p.b.s1 hpf;have hst:=λi ct h u hu=>hO.p.store a1l hO.p.b.s1 hO.of p i ct h u hu
 obtain⟨z,hz,fz⟩:∃z,IntKind.i64.wrap ((n:Int)*6)=z/\fits z:=⟨_,rfl,a2d _⟩;have z9:WD.frozen? ⟨fb,fo+p*5+3,none⟩=false:=(hst 3 .int rfl (.int .i64 0) (CT.ok_int jM)).2;have hX:=λu hu=>(hst 3 .int rfl u hu).1
 clear hst;go_upto_region 15 with fail;first|with_reducible refine a0f 9 zM zM ?_|with_reducible refine a0i 9 zM zM ?_
 simp only[zT];repeat(first|go_big_quiet_step (fail)|quiet_step (fail))
 refine wpQuiet_nil ?_;intro _ hw_;obtain⟨p,hw_⟩:=hw_;subst hw_;go_wp2_with fail;go_meet;exact⟨_,_,_,_,_,_,_,_,_,⟨(hX _ (CT.ok_int (by first|exact fz|exact a1b _|exact a2d _))).up (Go.below_growBy _ _),hO.oe,hO.of,hO.ow⟩,OddR.refl _ _ _ _⟩):P:=h
open odd10_anyK3 in
theorem c0e :a0z 3:=a1d
theorem odd10_anyK4.zCase {P:Prop}(h:P:=by
 by_cases hf0:nf=0
 ·subst hf0
  exact yba
 obtain⟨p,hp,hpf⟩:∃p:Nat,Int.tmod (k:Int) (nf:Int)=(p:Int)/\p<nf:=⟨k % nf,by rw[Int.tmod_eq_emod_of_nonneg oM];omega,Nat.mod_lt _ oM⟩;have hpI:(p:Int)<(nf:Int):=oM;have hfI:(0:Int)<(nf:Int):=oM;have hfI2:((nf:Int)==0)=false:=by simpa using hf0
 obtain⟨fb,fo,fc',heq,hfc',-⟩:=hO.p.b.s1.some_ oM
 cases heq;obtain⟨id,cs,ns,wt,ds,c0,c1,c2,c3,c4,f0,f1,f2,f3,f4⟩:=SL.face5 hO.p.b.tw hO.p.b.s1 hpf;have hst:=λi ct h u hu=>hO.p.store a1l hO.p.b.s1 hO.of p i ct h u hu
 have z9:WD.frozen? ⟨fb,fo+p*5+4,none⟩=false:=(hst 4 .int rfl (.int .i64 0) (CT.ok_int jM)).2;have hX:=λu hu=>(hst 4 .int rfl u hu).1
 clear hst;go_upto_region 18 with fail;first|with_reducible refine a0f 9 zM zM ?_|with_reducible refine a0i 9 zM zM ?_
 simp only[zT];repeat(first|go_big_quiet_step (fail)|quiet_step (fail))
 refine wpQuiet_nil ?_;intro _ hw_;obtain⟨p,hw_⟩:=hw_;subst hw_;go_wp2_with fail;go_meet;exact⟨_,_,_,_,_,_,_,_,_,⟨(hX _ (CT.ok_int (by first|exact a1b _|exact a2d _|exact⟨oM,oM⟩))).up (Go.below_growBy _ _),hO.oe,hO.of,hO.ow⟩,OddR.refl _ _ _ _⟩):P:=h
open odd10_anyK4 in
theorem c0f :a0z 4:=a1d
theorem odd10_anyK5.zCase {P:Prop}(h:P:=by
 by_cases hw0:nw=0
 ·subst hw0
  exact yba
 obtain⟨p,hp,hpw⟩:∃p:Nat,Int.tmod (k:Int) (nw:Int)=(p:Int)/\p<nw:=⟨k % nw,by rw[Int.tmod_eq_emod_of_nonneg oM];omega,Nat.mod_lt _ oM⟩;have hpI:(p:Int)<(nw:Int):=oM;have hwI:(0:Int)<(nw:Int):=oM;have hwI2:((nw:Int)==0)=false:=by simpa using hw0
 obtain⟨wb,wo,wc',heq,hwc',-⟩:=hO.p.b.s2.some_ oM
 cases heq;obtain⟨id,lv,m,lev,cs,ns,st,wt,ds,c0,c1,c2,c3,c4,c5,c6,c7,f0,hlv,hm,f2,f3,f4,f6,f7⟩:=SL.way hO.p.b.tw hO.p.b.s2 hpw;have hst:=λi ct h u hu=>hO.p.store a4e hO.p.b.s2 hO.ow p i ct h u hu
 have z9:WD.frozen? ⟨wb,wo+p*8,none⟩=false:=(hst 0 .int rfl (.int .i64 0) (CT.ok_int jM)).2;have hX:=λu hu=>(hst 0 .int rfl u hu).1
 clear hst;go_upto_region 21 with fail;first|with_reducible refine a0f 8 zM zM ?_|with_reducible refine a0i 8 zM zM ?_
 simp only[zT];repeat(first|go_big_quiet_step (fail)|quiet_step (fail))
 refine wpQuiet_nil ?_;intro _ hw_;obtain⟨p,hw_⟩:=hw_;subst hw_;go_wp2_with fail;go_meet;exact⟨_,_,_,_,_,_,_,_,_,⟨(hX _ (CT.ok_int (by first|exact a1b _|exact a2d _|exact⟨oM,oM⟩))).up (Go.below_growBy _ _),hO.oe,hO.of,hO.ow⟩,OddR.refl _ _ _ _⟩):P:=h
open odd10_anyK5 in
theorem c0g :a0z 5:=a1d
theorem odd10_anyK6.zCase {P:Prop}(h:P:=by
 by_cases hw0:nw=0
 ·subst hw0
  exact yba
 obtain⟨p,hp,hpw⟩:∃p:Nat,Int.tmod (k:Int) (nw:Int)=(p:Int)/\p<nw:=⟨k % nw,by rw[Int.tmod_eq_emod_of_nonneg oM];omega,Nat.mod_lt _ oM⟩;have hpI:(p:Int)<(nw:Int):=oM;have hwI:(0:Int)<(nw:Int):=oM;have hwI2:((nw:Int)==0)=false:=by simpa using hw0
 obtain⟨wb,wo,wc',heq,hwc',-⟩:=hO.p.b.s2.some_ oM
 cases heq;obtain⟨id,lv,m,lev,cs,ns,st,wt,ds,c0,c1,c2,c3,c4,c5,c6,c7,f0,hlv,hm,f2,f3,f4,f6,f7⟩:=SL.way hO.p.b.tw hO.p.b.s2 hpw;have hst:=λi ct h u hu=>hO.p.store a4e hO.p.b.s2 hO.ow p i ct h u hu
 have z9:WD.frozen? ⟨wb,wo+p*8+7,none⟩=false:=(hst 7 .int rfl (.int .i64 0) (CT.ok_int jM)).2;have hX:=λu hu=>(hst 7 .int rfl u hu).1
 clear hst;go_upto_region 24 with fail;first|with_reducible refine a0f 9 zM zM ?_|with_reducible refine a0i 9 zM zM ?_
 simp only[zT];repeat(first|go_big_quiet_step (fail)|quiet_step (fail))
 refine wpQuiet_nil ?_;intro _ hw_;obtain⟨p,hw_⟩:=hw_;subst hw_;go_wp2_with fail;go_meet;exact⟨_,_,_,_,_,_,_,_,_,⟨(hX _ (CT.ok_int (by first|exact a1b _|exact a2d _|exact⟨oM,oM⟩))).up (Go.below_growBy _ _),hO.oe,hO.of,hO.ow⟩,OddR.refl _ _ _ _⟩):P:=h
open odd10_anyK6 in
theorem c0h :a0z 6:=a1d
end
end Go.Proofs.YtfocdbjceedagaaGreatDoor
