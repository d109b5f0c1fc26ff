/-
  Parts.
-/
import Derived.Test.YtfocdbjceedagaaGreatDoorMba
set_option linter.unusedVariables false
set_option linter.unusedSimpArgs false
set_option maxHeartbeats 60000000
set_option maxRecDepth 100000
namespace Go.Proofs.YtfocdbjceedagaaGreatDoor
open Tryz
section
open Go Go.RowKit Go.Shelf
attribute [local go_sem] Oper.semAt_some
attribute [local go_sem ↓] Go.wp_at_zero Go.wp_at_succ
theorem odd10_anyK7.zCase {P:Prop}(h:P:=by
 by_cases hw0:nw=0
 ·subst hw0
  exact yba
 obtain⟨p,hp,hpw⟩:∃p:Nat,Int.tmod (k:Int) (nw:Int)=(p:Int)/\p<nw:=⟨k % nw,by rw[Int.tmod_eq_emod_of_nonneg oM];omega,Nat.mod_lt _ oM⟩;have hpI:(p:Int)<(nw:Int):=oM;have hwI:(0:Int)<(nw:Int):=oM;have hwI2:((nw:Int)==0)=false:=by simpa using hw0
 obtain⟨wb,wo,wc',heq,hwc',-⟩:=hO.p.b.s2.some_ oM
 cases heq;obtain⟨id,lv,m,lev,cs,ns,st,wt,ds,c0,c1,c2,c3,c4,c5,c6,c7,f0,hlv,hm,f2,f3,f4,f6,f7⟩:=SL.way hO.p.b.tw hO.p.b.s2 hpw;have hst:=λi ct h u hu=>hO.p.store a4e hO.p.b.s2 hO.ow p i ct h u hu
 have z9:WD.frozen? ⟨wb,wo+p*8+2,none⟩=false:=(hst 2 .int rfl (.int .i64 0) (CT.ok_int jM)).2;have hX:=λu hu=>(hst 2 .int rfl u hu).1
 clear hst;go_upto_region 27 with fail;first|with_reducible refine a0f 10 zM zM ?_|with_reducible refine a0i 10 zM zM ?_
 simp only[zT];repeat(first|go_big_quiet_step (fail)|quiet_step (fail))
 refine wpQuiet_nil ?_;intro _ hw_;obtain⟨p,hw_⟩:=hw_;subst hw_;go_wp2_with fail;go_meet;exact⟨_,_,_,_,_,_,_,_,_,⟨(hX _ (CT.ok_int (by first|exact a1b _|exact a2d _|exact⟨oM,oM⟩))).up (Go.below_growBy _ _),hO.oe,hO.of,hO.ow⟩,OddR.refl _ _ _ _⟩):P:=h
open odd10_anyK7 in
theorem c0i :a0z 7:=a1d
theorem odd10_anyK8.zCase {P:Prop}(h:P:=by
 by_cases hw0:nw=0
 ·subst hw0
  exact yba
 obtain⟨ix,hp,hpw⟩:∃ix:Nat,Int.tmod (k:Int) (nw:Int)=(ix:Int)/\ix<nw:=⟨k % nw,by rw[Int.tmod_eq_emod_of_nonneg oM];omega,Nat.mod_lt _ oM⟩;have hpI:(ix:Int)<(nw:Int):=oM;have hwI:(0:Int)<(nw:Int):=oM;have hwI2:((nw:Int)==0)=false:=by simpa using hw0
 obtain⟨wb,wo,wc',heq,hwc',-⟩:=hO.p.b.s2.some_ oM
 cases heq;have hj1:IntKind.i64.wrap ((ix:Int)+1)=(ix:Int)+1:=a0k oM oM;have hj2:(ix:Int)+1<=(nw:Int):=oM;have hj3:((ix:Int)+1).toNat=ix+1:=oM;have hj4:(ix:Int)<=(wc1:Int):=oM;go_upto_region 30 with fail;first|with_reducible refine a0f 17 zM zM ?_|with_reducible refine a0i 17 zM zM ?_
 simp only[zT];repeat(first|go_big_quiet_step (fail)|quiet_step (fail))
 refine wpQuiet_nil ?_;intro _ hw_;obtain⟨p,hw_⟩:=hw_;subst hw_;have hPw:=hO.p.up (Go.below_growBy WD p);refine hPw.append_l (n:=ix) (m:=nw-(ix+1)) qM _ _ 34 qM underlying34 a4e qM (hPw.b.s2.take oM) (Own.sliceG hO.ow ix) qM ?hx oM ?_
 case hx =>
  go_simp;by_cases h9:wc1=ix+1
  ·rw[if_pos h9]
   exact SL.drop rfl hPw.b.s2 oM (.inr ⟨h9.symm,rfl⟩)
  ·rw[if_neg h9]
   exact SL.drop rfl hPw.b.s2 oM (.inl rfl)
 intro e9 S' W' hP' hown';obtain⟨a9,c9,rfl,-⟩:=hP'.b.s0.form;have d2:=hP'.b.b0.cell 2;have z2:=hP'.b.b0.frozen 2;have hQ:=hP'.put (i:=2) (v:= .slice a9 (ix+(nw-(ix+1))) c9) rfl rfl;go_wp2_with fail
 all_goals go_meet
 all_goals exact⟨S',_,_,_,_,ne,nf,ix+(nw-(ix+1)),l,⟨hQ.sub vM,hO.oe,hO.of,hown'⟩,⟨oM,oM,oM,oM,oM,λh=>h,λh=>h⟩⟩):P:=h
open odd10_anyK8 in
theorem c0j :a0z 8:=a1d
theorem odd10_anyK9.zCase {P:Prop}(h:P:=by
 obtain⟨s,hs,htx⟩:=a6x k oM;have hOe:=hO.oe;have hOf:=hO.of;have hOw:=hO.ow;have hP:=hO.p;go_upto_region 32 with fail;clear hO i0 i1 i2 b0 b1 b2 b3;refine Go.wp_region_reln 20 zM zM (λ_ g W=>OP noB w g W [(BO,#[.slice ea1 ne ec1,.slice fa1 nf fc1,.slice wa1 nw wc1,.slice pa1 l.length pc1],37),(BR,mZ,37),(BQ,qC q0 q1 q2,23),(BM,M0,37)] [(206,.slice ea1 ne ec1,ne),(140,.slice fa1 nf fc1,nf),(149,.slice wa1 nw wc1,nw)] (.slice pa1 l.length pc1) l) (λg W g' W'=>Ev noB g W g' W') (FG9 BO n k nw wa1 wc1 s) (λ_ _ _ _ _ _ h g=>h.kept g) S9 (hP.up (zR _ _).drew) ?_ ?_
 ·intro i o hi ho c bb g W hc hM hA hD K hK
  match i,hi,ho with
  |0,_,ho =>
   cases ho;have f5:=a0a (v:= .pointer (some ⟨BO,0,none⟩)) (hA.at_ (k:=5) zM);go_simp;exact hK (.pointer (some ⟨BO,2,none⟩)) g W rfl (Ev.refl hM.b.tw) hM
  |1,_,ho =>
   cases ho;have f192:=a0a (v:= .pointer (some ⟨BO,2,none⟩)) (a0d hD 0 192 zM rfl rfl);have z0:W.cell? ⟨BO,2,none⟩=some (.slice wa1 nw wc1):=hM.b.b0.cell 2;go_simp;exact hK (.slice wa1 nw wc1) g W rfl (Ev.refl hM.b.tw) hM
  |2,_,ho =>
   exact yau
  |3,_,ho =>
   cases ho;have f194:=a0a (v:= .int .i64 (n:Nat)) (a0d hD 2 194 zM rfl rfl);exact ybh
  |4,_,ho =>
   exact yau
  |5,_,ho =>
   cases ho;have f196:=a0a (v:= .int .i64 (n:Nat)) (a0d hD 4 196 zM rfl rfl);exact ybh
  |6,_,ho =>
   cases ho;have f197:=a0d hD 5 197 zM rfl rfl;obtain⟨x197,e197,g197⟩:=f197;have f197:=a0a e197;go_simp;exact hK _ g W ⟨x197,rfl,g197⟩ (Ev.refl hM.b.tw) hM
  |7,_,ho =>
   cases ho;go_simp;exact hK (.agg #[.int .i64 55,.int .i64 65]) g W rfl (Ev.refl hM.b.tw) hM
  |8,_,ho =>
   cases ho;have f198:=a0d hD 6 198 zM rfl rfl;have f199:=a0a (v:= .agg #[.int .i64 55,.int .i64 65]) (a0d hD 7 199 zM rfl rfl);obtain⟨x198,e198,g198⟩:=f198;have f198:=a0a e198;have hTB:TB g W 26 #[.int .i64 x198,.int .i64 20,.int .i64 55,.int .i64 65]:=c4r (λu hu=>(List.forall_mem_cons.2 ⟨⟨_,rfl,g198⟩,List.forall_mem_cons.2 ⟨⟨_,rfl,jM⟩,List.forall_mem_cons.2 ⟨⟨_,rfl,jM⟩,List.forall_mem_cons.2 ⟨⟨_,rfl,jM⟩,λ_ h=>by simp at h⟩⟩⟩⟩:∀u∈[Value.int .i64 x198,.int .i64 20,.int .i64 55,.int .i64 65],∃x,u= .int .i64 x/\fits x) u hu);have hE:=Ev.alloc (X:=noB) hM.b.tw hTB;go_simp;exact hK (.slice (some ⟨W.heap.size,0,none⟩) 2 2) _ _ (SL.blk (.inr rfl) (Blk.new _ _ _) (by show 2*2<=4;omega)) hE (hM.evo hE ((zR _ _).alloc hM.b.size _))
  |9,_,ho =>
   exact ybj
  |10,_,ho =>
   cases ho;have f201:=a0a (v:= .int .i64 (k:Nat)) (a0d hD 9 201 zM rfl rfl);exact ybh
  |11,_,ho =>
   exact ybj
  |12,_,ho =>
   cases ho;have f203:=a0a (v:= .int .i64 (k:Nat)) (a0d hD 11 203 zM rfl rfl);exact ygx
  |13,_,ho =>
   exact yau
  |14,_,ho =>
   cases ho;have f205:=a0a (v:= .int .i64 (n:Nat)) (a0d hD 13 205 zM rfl rfl);exact ybh
  |15,_,ho =>
   exact ybj
  |16,_,ho =>
   cases ho;have f207:=a0a (v:= .int .i64 (k:Nat)) (a0d hD 15 207 zM rfl rfl);exact ybh
  |17,_,ho =>
   cases ho;have f208:=a0d hD 16 208 zM rfl rfl;obtain⟨x208,e208,g208⟩:=f208;have f208:=a0a e208;exact ybh
  |18,_,ho =>
   cases ho;have f195:=a0d hD 3 195 zM rfl rfl;obtain⟨x195,e195,g195⟩:=f195;have f195:=a0a e195;have f200:=a0d hD 8 200 zM rfl rfl;have f202:=a0d hD 10 202 zM rfl rfl;obtain⟨x202,e202,g202⟩:=f202;have f202:=a0a e202;have f204:=a0a (v:= .string s) (a0d hD 12 204 zM rfl rfl);have f206:=a0d hD 14 206 zM rfl rfl;obtain⟨x206,e206,g206⟩:=f206;have f206:=a0a e206;have f209:=a0d hD 17 209 zM rfl rfl;obtain⟨x209,e209,g209⟩:=f209;have f209:=a0a e209;obtain⟨sv,e200⟩:=zE (bb.eval (.tmp 200));rw[e200]at f200;have h200:SL g W 26 sv 2:=f200;obtain⟨a1,c1,rfl,-⟩:=h200.form;have f200:=a0a e200;go_simp;exact hK _ g W ⟨_,_,_,_,_,rfl,g195,g202,g206,g209,h200⟩ (Ev.refl hM.b.tw) hM
  |19,_,ho =>
   cases ho;have f210:=a0d hD 18 210 zM rfl rfl;obtain⟨a,lev,wt,ds,sv,e210,ha,hlev,hwt,hds,hsv⟩:=f210;obtain⟨a1,c1,rfl,-⟩:=hsv.form;have f210:=a0a e210;have hE:=Ev.alloc (X:=noB) hM.b.tw (c9h (cs:=⟨#[112,97,116,104]⟩) (ns:=s) (st:=false) ha hlev jM hs hwt hds hsv oM);go_simp;exact hK (.slice (some ⟨W.heap.size,0,none⟩) 1 1) _ _ (SL.blk (.inr rfl) (Blk.new _ _ _) (by show 1*8<=8;omega)) hE (hM.evo hE ((zR _ _).alloc hM.b.size _))
  |i+20,hi,_=>exact absurd hi oM
 ·intro bb g W hM hA hall
  have h193:bb.eval (.tmp 193)= .slice wa1 nw wc1:=hall 1 oM _ _ rfl rfl;have h211:SL g W 149 (bb.eval (.tmp 211)) 1:=hall 19 oM _ _ rfl rfl;obtain⟨va,hva⟩:=zE (bb.eval (.tmp 211));rw[hva]at h211;have hfr:=hA.frame (rT 192 (rF 20 (rT 162 ([])))) _ rfl zM;clear hall hA;obtain⟨f,hf⟩:∃f:Nat->Value,(λk=>bb.tmps.getD k undef)=f:=⟨_,rfl⟩;have g193:f 193= .slice wa1 nw wc1:=by rw[<-hf,<-h193];rfl
  have g211:f 211=va:=by rw[<-hf,<-hva];rfl
  rw[hf]at hfr;clear hf h193 hva;subst hfr;simp only[rT,rF,a1z,g193,g211,Nat.reduceAdd];clear g193 g211;simp only[zU];refine hM.append_l (n:=nw) (m:=1) qM _ _ 34 qM underlying34 a4e qM hM.b.s2 hOw qM h211 oM ?_;intro e9 S' W' hP' hown';obtain⟨a9,c9,rfl,-⟩:=hP'.b.s0.form;have d2:=hP'.b.b0.cell 2;have z2:=hP'.b.b0.frozen 2;have hQ:=hP'.put (i:=2) (v:= .slice a9 (nw+1) c9) rfl rfl;go_wp2_with fail;go_meet;exact⟨S',_,_,_,_,ne,nf,nw+1,l,⟨hQ.sub vM,hOe,hOf,hown'⟩,⟨oM,oM,oM,oM,oM,λh=>h,λh=>h⟩⟩):P:=h
open odd10_anyK9 in
theorem c0k :a0z 9:=a1d
theorem odd10_anyK10.zCase {P:Prop}(h:P:=by
 by_cases hp0:l=[]
 ·subst hp0
  exact yba
 have hlp:0<l.length:=List.length_pos_iff.2 hp0;obtain⟨g,rfl,hgc⟩:=b9w hO.p.row hp0;obtain⟨m,hm⟩:=zE l.length;obtain⟨ix,hp,hpl⟩:∃ix:Nat,Int.tmod (k:Int) (m:Int)=(ix:Int)/\ix<l.length:=⟨k % m,by rw[Int.tmod_eq_emod_of_nonneg oM];omega,by rw[hm];exact Nat.mod_lt _ oM⟩;have hpI:(ix:Int)<(m:Int):=oM;have hfI:(0:Int)<(m:Int):=oM;have hfI2:((m:Int)==0)=false:=by simp;omega
 obtain⟨y,hy⟩:=zE (l[ix]);obtain⟨X,hX0,fX⟩:∃X:Int,wrap64 (wrap64 (y.x+(n:Int))-30)=X/\fits X:=⟨_,rfl,a1b _⟩;obtain⟨Y,hY0,fY⟩:∃Y:Int,wrap64 (wrap64 (y.y+(k:Int))-30)=Y/\fits Y:=⟨_,rfl,a1b _⟩;have hR:OddR ne nf nw l ne nf nw (l.set ix { y with x:=X,y:=Y }):=OddR.set hpl (λh=>by rw[hy]at h;exact⟨h.id,fX,fY,h.wt,h.nm⟩) (λh=>by rw[hy]at h;exact h);obtain⟨c1,z1⟩:=hO.p.cellP oM hpl (i:=1) oM;obtain⟨c2,z2⟩:=hO.p.cellP oM hpl (i:=2) oM;rw[hy]at c1 c2;replace c1:WD.cell? ⟨g,ix*7+1,none⟩=some (.int .i64 y.x):=c1;replace c2:WD.cell? ⟨g,ix*7+2,none⟩=some (.int .i64 y.y):=c2;have hX:=hO.p.setRow2 hpl (i:=1) (j:=2) (y1:={ y with x:=X }) (y:={ y with x:=X,y:=Y }) (u:= .int .i64 X) (v:= .int .i64 Y) oM oM (by rw[hy];rfl) rfl;rw[hm]at b3 hX;replace hm:=Lib.hid hm;clear hp0 hy hlp;go_upto_region 35 with fail;first|with_reducible refine a0f 7 zM zM ?_|with_reducible refine a0i 7 zM zM ?_
 simp only[zT];repeat(first|go_big_quiet_step (fail)|quiet_step (fail))
 refine wpQuiet_nil ?_;intro _ hw_;obtain⟨p,hw_⟩:=hw_;subst hw_;go_upto_region 36 with fail;first|with_reducible refine a0f 18 zM zM ?_|with_reducible refine a0i 18 zM zM ?_
 simp only[zT];repeat(first|go_big_quiet_step (fail)|quiet_step (fail))
 refine wpQuiet_nil ?_;intro _ hw_;obtain⟨p,hw_⟩:=hw_;subst hw_;go_wp2_with fail;go_meet;subst hX0 hY0;exact⟨_,_,_,_,_,_,_,_,_,⟨hX.up (Go.below_growBy _ _),hO.oe,hO.of,hO.ow⟩,hR⟩):P:=h
open odd10_anyK10 in
theorem b7b :a0z 10:=a1d
theorem odd10_anyK11.zCase {P:Prop}(h:P:=by
 by_cases hp0:l=[]
 ·subst hp0
  exact yba
 have hlp:0<l.length:=List.length_pos_iff.2 hp0;obtain⟨g,rfl,hgc⟩:=b9w hO.p.row hp0;obtain⟨m,hm⟩:=zE l.length;obtain⟨ix,hp,hpl⟩:∃ix:Nat,Int.tmod (k:Int) (m:Int)=(ix:Int)/\ix<l.length:=⟨k % m,by rw[Int.tmod_eq_emod_of_nonneg oM];omega,by rw[hm];exact Nat.mod_lt _ oM⟩;have hpI:(ix:Int)<(m:Int):=oM;have hfI:(0:Int)<(m:Int):=oM;have hfI2:((m:Int)==0)=false:=by simp;omega
 obtain⟨y,hy⟩:=zE (l[ix]);obtain⟨q,hq⟩:∃q:Int,Int.tmod (n:Int) 18=q:=⟨_,rfl⟩;have hR:OddR ne nf nw l ne nf nw (l.set ix { y with ds:=q }):=OddR.set hpl (λh=>by rw[hy]at h;exact⟨h.id,h.x,h.y,h.wt,h.nm⟩) (λh=>by rw[hy]at h;exact h);obtain⟨c5,z5⟩:=hO.p.cellP oM hpl (i:=6) oM;rw[hy]at c5;replace c5:WD.cell? ⟨g,ix*7+6,none⟩=some _:=c5;have hX:=hO.p.setRow hpl (i:=6) (y:={ y with ds:=q }) (u:=(.int .i64 q)) oM (by rw[hy];rfl);rw[hm]at b3 hX;replace hm:=Lib.hid hm;clear hp0 hy hlp;go_upto_region 39 with fail;first|with_reducible refine a0f 9 zM zM ?_|with_reducible refine a0i 9 zM zM ?_
 simp only[zT];repeat(first|go_big_quiet_step (fail)|quiet_step (fail))
 refine wpQuiet_nil ?_;intro _ hw_;obtain⟨p,hw_⟩:=hw_;subst hw_;go_wp2_with fail;go_meet;subst hq;exact⟨_,_,_,_,_,_,_,_,_,⟨hX.up (Go.below_growBy _ _),hO.oe,hO.of,hO.ow⟩,hR⟩):P:=h
open odd10_anyK11 in
theorem b7c :a0z 11:=a1d
theorem odd10_anyK12.zCase {P:Prop}(h:P:=by
 by_cases hp0:l=[]
 ·subst hp0
  exact yba
 have hlp:0<l.length:=List.length_pos_iff.2 hp0;obtain⟨g,rfl,hgc⟩:=b9w hO.p.row hp0;obtain⟨m,hm⟩:=zE l.length;obtain⟨ix,hp,hpl⟩:∃ix:Nat,Int.tmod (k:Int) (m:Int)=(ix:Int)/\ix<l.length:=⟨k % m,by rw[Int.tmod_eq_emod_of_nonneg oM];omega,by rw[hm];exact Nat.mod_lt _ oM⟩;have hpI:(ix:Int)<(m:Int):=oM;have hfI:(0:Int)<(m:Int):=oM;have hfI2:((m:Int)==0)=false:=by simp;omega
 obtain⟨y,hy⟩:=zE (l[ix]);obtain⟨s,hs,htx⟩:=a6x n oM;have hR:OddR ne nf nw l ne nf nw (l.set ix { y with nm:=s }):=OddR.set hpl (λh=>by rw[hy]at h;exact⟨h.id,h.x,h.y,h.wt,show s.size<=1000 from by omega⟩) (λh=>by rw[hy]at h;exact h);obtain⟨c5,z5⟩:=hO.p.cellP oM hpl (i:=4) oM;rw[hy]at c5;replace c5:WD.cell? ⟨g,ix*7+4,none⟩=some _:=c5;have hX:=hO.p.setRow hpl (i:=4) (y:={ y with nm:=s }) (u:=(.string s)) oM (by rw[hy];rfl);rw[hm]at b3 hX;replace hm:=Lib.hid hm;clear hp0 hy hlp;go_upto_region 42 with fail;first|with_reducible refine a0f 9 zM zM ?_|with_reducible refine a0i 9 zM zM ?_
 simp only[zT];repeat(first|go_big_quiet_step ((go_at_call 79;exact Calls.grow_of (htx _)))|quiet_step ((go_at_call 79;exact Calls.grow_of (htx _))))
 refine wpQuiet_nil ?_;intro _ hw_;obtain⟨p,hw_⟩:=hw_;subst hw_;go_wp2_with fail;go_meet;exact⟨_,_,_,_,_,_,_,_,_,⟨hX.up (Go.below_growBy _ _),hO.oe,hO.of,hO.ow⟩,hR⟩):P:=h
open odd10_anyK12 in
theorem b7d :a0z 12:=a1d
end
end Go.Proofs.YtfocdbjceedagaaGreatDoor
