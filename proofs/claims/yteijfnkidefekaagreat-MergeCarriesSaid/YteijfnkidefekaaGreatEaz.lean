/-
  Parts.
-/
import Derived.Test.YteijfnkidefekaaGreatEau
set_option linter.unusedVariables false
set_option linter.unusedSimpArgs false
set_option linter.unusedSectionVars false
set_option maxHeartbeats 60000000
set_option maxRecDepth 100000
namespace Go.Proofs.YteijfnkidefekaaGreat
open Tryz
section
open Go Go.RowKit Go.Shelf
theorem odd10_anyK6.zQ {P:Prop}(h:P:=by
  have z9:WD.frozen? ⟨wb,wo+p*8+7,none⟩=false:=(ai 7 .int rfl (.int .i64 0) (CT.ok_int jM)).2;have hX:=λu hu=>(ai 7 .int rfl u hu).1
  clear ai;go_upto_region 24 with fail;refine c5h λp=> ?_
  go_wp2_with fail;go_meet;exact⟨_,_,_,_,_,_,_,_,_,⟨(hX _ (CT.ok_int (by first|exact a1a _|exact a2a _|exact⟨xM,xM⟩))).up (Go.below_growBy _ _),hO.oe,hO.of,hO.ow⟩,OddR.refl _ _ _ _⟩):P:=h
theorem odd10_anyK6.zCase {P:Prop}(h:P:=by exact zP2):P:=h
open odd10_anyK6 in
theorem b3q :a0z 6:=a1c
theorem odd10_anyK7.zQ {P:Prop}(h:P:=by
  have z9:WD.frozen? ⟨wb,wo+p*8+2,none⟩=false:=(ai 2 .int rfl (.int .i64 0) (CT.ok_int jM)).2;have hX:=λu hu=>(ai 2 .int rfl u hu).1
  clear ai;go_upto_region 27 with fail;refine c9p λp=> ?_
  go_wp2_with fail;go_meet;exact⟨_,_,_,_,_,_,_,_,_,⟨(hX _ (CT.ok_int (by first|exact a1a _|exact a2a _|exact⟨xM,xM⟩))).up (Go.below_growBy _ _),hO.oe,hO.of,hO.ow⟩,OddR.refl _ _ _ _⟩):P:=h
theorem odd10_anyK7.zCase {P:Prop}(h:P:=by exact zP2):P:=h
open odd10_anyK7 in
theorem b3r :a0z 7:=a1c
theorem odd10_anyK8.zCase {P:Prop}(h:P:=by
 by_cases gX:nw=0
 ·subst gX
  exact ybc
 obtain⟨ix,hp,AY⟩:=zIx k (show 0<nw by omega);obtain⟨pZ,LG,C7⟩:=zI (show ix<nw by omega);obtain⟨wb,wo,LH,heq,C8,-⟩:=hO.p.b.s2.some_ xM
 cases heq;have mV:IntKind.i64.wrap ((ix:Int)+1)=(ix:Int)+1:=a0p xM xM;have mW:(ix:Int)+1<=(nw:Int):=xM;have vK:((ix:Int)+1).toNat=ix+1:=xM;have IP:(ix:Int)<=(gN:Int):=xM;go_upto_region 30 with fail;refine c9q λp=> ?_
 have kn:=hO.p.up (Go.below_growBy WD p);refine kn.append_l (n:=ix) (m:=nw-(ix+1)) qM _ _ 29 qM underlying29 a3l qM (kn.b.s2.take xM) (Own.sliceG hO.ow ix) qM ?hx xM ?_
 case hx =>
  go_simp;by_cases h9:gN=ix+1
  ·rw[if_pos h9]
   exact SL.drop rfl kn.b.s2 xM (.inr ⟨h9.symm,rfl⟩)
  ·rw[if_neg h9]
   exact SL.drop rfl kn.b.s2 xM (.inl rfl)
 intro e9 S' W' lR ep;obtain⟨a9,c9,rfl,-⟩:=lR.b.s0.form;have d2:=lR.b.b0.cell 2;have z2:=lR.b.b0.frozen 2;have hQ:=lR.put (i:=2) (v:= .slice a9 (ix+(nw-(ix+1))) c9) rfl rfl;go_wp2_with fail
 all_goals go_meet
 all_goals exact⟨S',_,_,_,_,ne,nf,ix+(nw-(ix+1)),l,⟨hQ.sub vM,hO.oe,hO.of,ep⟩,⟨xM,xM,xM,xM,xM,λh=>h,λh=>h⟩⟩):P:=h
open odd10_anyK8 in
theorem b3s :a0z 8:=a1c
theorem odd10_anyK9.zCase {P:Prop}(h:P:=by
 obtain⟨s,hs,vr⟩:=a4s k xM;have yB:=hO.oe;have we:=hO.of;have yC:=hO.ow;have hP:=hO.p;go_upto_region 32 with fail;clear hO i0 i1 i2 b0 b1 b2 b3;refine Go.wp_region_reln 20 zM zM (λ_ g W=>OP noB w g W [(BO,#[.slice rO ne rP,.slice vZ nf gJ,.slice iO nw gN,.slice jl l.length iP],32),(BR,mZ,32),(BQ,qC q0 q1 q2,119),(BM,M0,32)] [(71,.slice rO ne rP,ne),(43,.slice vZ nf gJ,nf),(46,.slice iO nw gN,nw)] (.slice jl l.length iP) l) (λg W g' W'=>Ev noB g W g' W') (FG9 BO n k nw iO gN s) (λ_ _ _ _ _ _ h g=>h.kept g) S9 (hP.up (zR _ _).drew) ?_ ?_
 ·intro i o hi ho c bb g W hc hM hA hD K hK
  match i,hi,ho with
  |0,_,ho =>
   cases ho;have f5:=a0a (v:= .pointer (some ⟨BO,0,none⟩)) (hA.at_ (k:=5) zM);go_simp;exact hK (.pointer (some ⟨BO,2,none⟩)) g W rfl (Ev.refl hM.b.tw) hM
  |1,_,ho =>
   cases ho;have f192:=a0a (v:= .pointer (some ⟨BO,2,none⟩)) (a0e hD 0 192 zM rfl rfl);have z0:W.cell? ⟨BO,2,none⟩=some (.slice iO nw gN):=hM.b.b0.cell 2;go_simp;exact hK (.slice iO nw gN) g W rfl (Ev.refl hM.b.tw) hM
  |2,_,ho =>
   exact yaw
  |3,_,ho =>
   cases ho;have f194:=a0a (v:= .int .i64 (n:Nat)) (a0e hD 2 194 zM rfl rfl);exact ybj
  |4,_,ho =>
   exact yaw
  |5,_,ho =>
   cases ho;have f196:=a0a (v:= .int .i64 (n:Nat)) (a0e hD 4 196 zM rfl rfl);exact ybj
  |6,_,ho =>
   cases ho;have f197:=a0e hD 5 197 zM rfl rfl;obtain⟨ED,EE,EF⟩:=f197;have f197:=a0a EE;go_simp;exact hK _ g W ⟨ED,rfl,EF⟩ (Ev.refl hM.b.tw) hM
  |7,_,ho =>
   cases ho;go_simp;exact hK (.agg #[.int .i64 55,.int .i64 65]) g W rfl (Ev.refl hM.b.tw) hM
  |8,_,ho =>
   cases ho;have f198:=a0e hD 6 198 zM rfl rfl;have f199:=a0a (v:= .agg #[.int .i64 55,.int .i64 65]) (a0e hD 7 199 zM rfl rfl);obtain⟨yF,EG,EH⟩:=f198;have f198:=a0a EG;have En:TB g W 41 #[.int .i64 yF,.int .i64 20,.int .i64 55,.int .i64 65]:=b7d (λu hu=>(List.forall_mem_cons.2 ⟨⟨_,rfl,EH⟩,List.forall_mem_cons.2 ⟨⟨_,rfl,jM⟩,List.forall_mem_cons.2 ⟨⟨_,rfl,jM⟩,List.forall_mem_cons.2 ⟨⟨_,rfl,jM⟩,λ_ h=>by simp at h⟩⟩⟩⟩:∀u∈[Value.int .i64 yF,.int .i64 20,.int .i64 55,.int .i64 65],∃x,u= .int .i64 x/\a0l x) u hu);have hE:=Ev.alloc (X:=noB) hM.b.tw En;go_simp;exact hK (.slice (some ⟨W.heap.size,0,none⟩) 2 2) _ _ (SL.blk (.inr rfl) (Blk.new _ _ _) (by show 2*2<=4;omega)) hE (hM.evo hE ((zR _ _).alloc hM.b.size _))
  |9,_,ho =>
   exact ybk
  |10,_,ho =>
   cases ho;have f201:=a0a (v:= .int .i64 (k:Nat)) (a0e hD 9 201 zM rfl rfl);exact ybj
  |11,_,ho =>
   exact ybk
  |12,_,ho =>
   cases ho;have f203:=a0a (v:= .int .i64 (k:Nat)) (a0e hD 11 203 zM rfl rfl);exact yhd
  |13,_,ho =>
   exact yaw
  |14,_,ho =>
   cases ho;have f205:=a0a (v:= .int .i64 (n:Nat)) (a0e hD 13 205 zM rfl rfl);exact ybj
  |15,_,ho =>
   exact ybk
  |16,_,ho =>
   cases ho;have f207:=a0a (v:= .int .i64 (k:Nat)) (a0e hD 15 207 zM rfl rfl);exact ybj
  |17,_,ho =>
   cases ho;have f208:=a0e hD 16 208 zM rfl rfl;obtain⟨MN,EJ,MO⟩:=f208;have f208:=a0a EJ;exact ybj
  |18,_,ho =>
   cases ho;have f195:=a0e hD 3 195 zM rfl rfl;obtain⟨MP,EK,EM⟩:=f195;have f195:=a0a EK;have f200:=a0e hD 8 200 zM rfl rfl;have f202:=a0e hD 10 202 zM rfl rfl;obtain⟨MQ,EN,EO⟩:=f202;have f202:=a0a EN;have f204:=a0a (v:= .string s) (a0e hD 12 204 zM rfl rfl);have f206:=a0e hD 14 206 zM rfl rfl;obtain⟨MR,EP,ER⟩:=f206;have f206:=a0a EP;have f209:=a0e hD 17 209 zM rfl rfl;obtain⟨MS,ES,EU⟩:=f209;have f209:=a0a ES;obtain⟨sv,yH⟩:=zE (bb.eval (.tmp 200));rw[yH]at f200;have h200:SL g W 41 sv 2:=f200;obtain⟨a1,c1,rfl,-⟩:=h200.form;have f200:=a0a yH;go_simp;exact hK _ g W ⟨_,_,_,_,_,rfl,EM,EO,ER,EU,h200⟩ (Ev.refl hM.b.tw) hM
  |19,_,ho =>
   cases ho;have f210:=a0e hD 18 210 zM rfl rfl;obtain⟨a,cF,wt,ds,sv,EV,ha,EW,xg,MT,bj⟩:=f210;obtain⟨a1,c1,rfl,-⟩:=bj.form;have f210:=a0a EV;have hE:=Ev.alloc (X:=noB) hM.b.tw (b9z (cs:=⟨#[112,97,116,104]⟩) (ns:=s) (st:=false) ha EW jM hs xg MT bj xM);go_simp;exact hK (.slice (some ⟨W.heap.size,0,none⟩) 1 1) _ _ (SL.blk (.inr rfl) (Blk.new _ _ _) (by show 1*8<=8;omega)) hE (hM.evo hE ((zR _ _).alloc hM.b.size _))
  |i+20,hi,_=>exact absurd hi xM
 ·intro bb g W hM hA aa
  have h193:bb.eval (.tmp 193)= .slice iO nw gN:=aa 1 xM _ _ rfl rfl;have h211:SL g W 46 (bb.eval (.tmp 211)) 1:=aa 19 xM _ _ rfl rfl;obtain⟨va,iY⟩:=zE (bb.eval (.tmp 211));rw[iY]at h211;have az:=hA.frame (rT 192 (rF 20 (rT 162 ([])))) _ rfl zM;clear aa hA;obtain⟨f,hf⟩:=zDt bb;have yI:f 193= .slice iO nw gN:=by rw[<-hf,<-h193];rfl
  have yJ:f 211=va:=by rw[<-hf,<-iY];rfl
  rw[hf]at az;clear hf h193 iY;subst az;simp only[rT,rF,a1j,yI,yJ,Nat.reduceAdd];clear yI yJ;simp only[zU];refine hM.append_l (n:=nw) (m:=1) qM _ _ 29 qM underlying29 a3l qM hM.b.s2 yC qM h211 xM ?_;intro e9 S' W' lR ep;obtain⟨a9,c9,rfl,-⟩:=lR.b.s0.form;have d2:=lR.b.b0.cell 2;have z2:=lR.b.b0.frozen 2;have hQ:=lR.put (i:=2) (v:= .slice a9 (nw+1) c9) rfl rfl;go_wp2_with fail;go_meet;exact⟨S',_,_,_,_,ne,nf,nw+1,l,⟨hQ.sub vM,yB,we,ep⟩,⟨xM,xM,xM,xM,xM,λh=>h,λh=>h⟩⟩):P:=h
open odd10_anyK9 in
theorem b3t :a0z 9:=a1c
end
end Go.Proofs.YteijfnkidefekaaGreat
