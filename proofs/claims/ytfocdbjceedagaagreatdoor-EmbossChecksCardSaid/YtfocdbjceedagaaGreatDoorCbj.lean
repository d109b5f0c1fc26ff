/-
  Parts.
-/
import Derived.Test.YtfocdbjceedagaaGreatDoorCas
set_option linter.unusedVariables false
set_option linter.unusedSimpArgs false
set_option maxHeartbeats 60000000
set_option maxRecDepth 100000
namespace Go.Proofs.YtfocdbjceedagaaGreatDoor
open Tryz
section
open Go Go.RowKit Go.Shelf
theorem odd10_anyK9.zCase {P:Prop}(h:P:=by
 obtain⟨s,hs,pQ⟩:=a7k k oM;have Ee:=hO.oe;have AP:=hO.of;have Ef:=hO.ow;have hP:=hO.p;go_upto_region 32 with fail;clear hO i0 i1 i2 b0 b1 b2 b3;refine Go.wp_region_reln 20 zM zM (λ_ g W=>OP noB w g W [(BO,#[.slice vQ ne vR,.slice AN nf js,.slice j5 nw jv,.slice lz l.length j6],37),(BR,mZ,37),(BQ,qC q0 q1 q2,23),(BM,M0,37)] [(206,.slice vQ ne vR,ne),(140,.slice AN nf js,nf),(149,.slice j5 nw jv,nw)] (.slice lz l.length j6) l) (λg W g' W'=>Ev noB g W g' W') (FG9 BO n k nw j5 jv s) (λ_ _ _ _ _ _ h g=>h.kept g) S9 (hP.up (zR _ _).drew) ?_ ?_
 ·intro i o hi ho c bb g W hc hM hA hD K hK
  match i,hi,ho with
  |0,_,ho =>
   cases ho;have f5:=a0a (v:= .pointer (some ⟨BO,0,none⟩)) (hA.at_ (k:=5) zM);go_simp;exact hK (.pointer (some ⟨BO,2,none⟩)) g W rfl (Ev.refl hM.b.tw) hM
  |1,_,ho =>
   cases ho;have f192:=a0a (v:= .pointer (some ⟨BO,2,none⟩)) (a0f hD 0 192 zM rfl rfl);have z0:W.cell? ⟨BO,2,none⟩=some (.slice j5 nw jv):=hM.b.b0.cell 2;go_simp;exact hK (.slice j5 nw jv) g W rfl (Ev.refl hM.b.tw) hM
  |2,_,ho =>
   exact yba
  |3,_,ho =>
   cases ho;have f194:=a0a (v:= .int .i64 (n:Nat)) (a0f hD 2 194 zM rfl rfl);exact ybo
  |4,_,ho =>
   exact yba
  |5,_,ho =>
   cases ho;have f196:=a0a (v:= .int .i64 (n:Nat)) (a0f hD 4 196 zM rfl rfl);exact ybo
  |6,_,ho =>
   cases ho;have f197:=a0f hD 5 197 zM rfl rfl;obtain⟨JK,JL,JM⟩:=f197;have f197:=a0a JL;go_simp;exact hK _ g W ⟨JK,rfl,JM⟩ (Ev.refl hM.b.tw) hM
  |7,_,ho =>
   cases ho;go_simp;exact hK (.agg #[.int .i64 55,.int .i64 65]) g W rfl (Ev.refl hM.b.tw) hM
  |8,_,ho =>
   cases ho;have f198:=a0f hD 6 198 zM rfl rfl;have f199:=a0a (v:= .agg #[.int .i64 55,.int .i64 65]) (a0f hD 7 199 zM rfl rfl);obtain⟨Eg,JN,JO⟩:=f198;have f198:=a0a JN;have Jz:TB g W 26 #[.int .i64 Eg,.int .i64 20,.int .i64 55,.int .i64 65]:=c5r (λu hu=>(List.forall_mem_cons.2 ⟨⟨_,rfl,JO⟩,List.forall_mem_cons.2 ⟨⟨_,rfl,jM⟩,List.forall_mem_cons.2 ⟨⟨_,rfl,jM⟩,List.forall_mem_cons.2 ⟨⟨_,rfl,jM⟩,λ_ h=>by simp at h⟩⟩⟩⟩:∀u∈[Value.int .i64 Eg,.int .i64 20,.int .i64 55,.int .i64 65],∃x,u= .int .i64 x/\fits x) u hu);have hE:=Ev.alloc (X:=noB) hM.b.tw Jz;go_simp;exact hK (.slice (some ⟨W.heap.size,0,none⟩) 2 2) _ _ (SL.blk (.inr rfl) (Blk.new _ _ _) (by show 2*2<=4;omega)) hE (hM.evo hE ((zR _ _).alloc hM.b.size _))
  |9,_,ho =>
   exact ybq
  |10,_,ho =>
   cases ho;have f201:=a0a (v:= .int .i64 (k:Nat)) (a0f hD 9 201 zM rfl rfl);exact ybo
  |11,_,ho =>
   exact ybq
  |12,_,ho =>
   cases ho;have f203:=a0a (v:= .int .i64 (k:Nat)) (a0f hD 11 203 zM rfl rfl);exact yhu
  |13,_,ho =>
   exact yba
  |14,_,ho =>
   cases ho;have f205:=a0a (v:= .int .i64 (n:Nat)) (a0f hD 13 205 zM rfl rfl);exact ybo
  |15,_,ho =>
   exact ybq
  |16,_,ho =>
   cases ho;have f207:=a0a (v:= .int .i64 (k:Nat)) (a0f hD 15 207 zM rfl rfl);exact ybo
  |17,_,ho =>
   cases ho;have f208:=a0f hD 16 208 zM rfl rfl;obtain⟨Rk,JP,Rl⟩:=f208;have f208:=a0a JP;exact ybo
  |18,_,ho =>
   cases ho;have f195:=a0f hD 3 195 zM rfl rfl;obtain⟨Rm,JQ,JR⟩:=f195;have f195:=a0a JQ;have f200:=a0f hD 8 200 zM rfl rfl;have f202:=a0f hD 10 202 zM rfl rfl;obtain⟨Rn,JS,JT⟩:=f202;have f202:=a0a JS;have f204:=a0a (v:= .string s) (a0f hD 12 204 zM rfl rfl);have f206:=a0f hD 14 206 zM rfl rfl;obtain⟨Ro,JU,JV⟩:=f206;have f206:=a0a JU;have f209:=a0f hD 17 209 zM rfl rfl;obtain⟨Rp,JW,JX⟩:=f209;have f209:=a0a JW;obtain⟨sv,Eh⟩:=zE (bb.eval (.tmp 200));rw[Eh]at f200;have h200:SL g W 26 sv 2:=f200;obtain⟨a1,c1,rfl,-⟩:=h200.form;have f200:=a0a Eh;go_simp;exact hK _ g W ⟨_,_,_,_,_,rfl,JR,JT,JV,JX,h200⟩ (Ev.refl hM.b.tw) hM
  |19,_,ho =>
   cases ho;have f210:=a0f hD 18 210 zM rfl rfl;obtain⟨a,dG,wt,ds,sv,JY,ha,JZ,Ci,F5,bH⟩:=f210;obtain⟨a1,c1,rfl,-⟩:=bH.form;have f210:=a0a JY;have hE:=Ev.alloc (X:=noB) hM.b.tw (d0p (cs:=⟨#[112,97,116,104]⟩) (ns:=s) (st:=false) ha JZ jM hs Ci F5 bH oM);go_simp;exact hK (.slice (some ⟨W.heap.size,0,none⟩) 1 1) _ _ (SL.blk (.inr rfl) (Blk.new _ _ _) (by show 1*8<=8;omega)) hE (hM.evo hE ((zR _ _).alloc hM.b.size _))
  |i+20,hi,_=>exact absurd hi oM
 ·intro bb g W hM hA ah
  have h193:bb.eval (.tmp 193)= .slice j5 nw jv:=ah 1 oM _ _ rfl rfl;have h211:SL g W 149 (bb.eval (.tmp 211)) 1:=ah 19 oM _ _ rfl rfl;obtain⟨va,mm⟩:=zE (bb.eval (.tmp 211));rw[mm]at h211;have aC:=hA.frame (rT 192 (rF 20 (rT 162 ([])))) _ rfl zM;clear ah hA;obtain⟨f,hf⟩:=zDt bb;have Ei:f 193= .slice j5 nw jv:=by rw[<-hf,<-h193];rfl
  have Ej:f 211=va:=by rw[<-hf,<-mm];rfl
  rw[hf]at aC;clear hf h193 mm;subst aC;simp only[rT,rF,a2d,Ei,Ej,Nat.reduceAdd];clear Ei Ej;simp only[zU];refine hM.append_l (n:=nw) (m:=1) qM _ _ 34 qM underlying34 a5p qM hM.b.s2 Ef qM h211 oM ?_;intro e9 S' W' oW bW;obtain⟨a9,c9,rfl,-⟩:=oW.b.s0.form;have d2:=oW.b.b0.cell 2;have z2:=oW.b.b0.frozen 2;have hQ:=oW.put (i:=2) (v:= .slice a9 (nw+1) c9) rfl rfl;go_wp2_with fail;go_meet;exact⟨S',_,_,_,_,ne,nf,nw+1,l,⟨hQ.sub vM,Ee,AP,bW⟩,⟨oM,oM,oM,oM,oM,λh=>h,λh=>h⟩⟩):P:=h
open odd10_anyK9 in
theorem c1e :a1d 9:=a1g
theorem odd10_anyK10.zQ {P:Prop}(h:P:=by
  obtain⟨y,hy⟩:=zE (l[ix]);obtain⟨X,Rq,fX⟩:∃X:Int,wrap64 (wrap64 (y.x+(n:Int))-30)=X/\fits X:=⟨_,rfl,a1c _⟩;obtain⟨Y,Rr,fY⟩:∃Y:Int,wrap64 (wrap64 (y.y+(k:Int))-30)=Y/\fits Y:=⟨_,rfl,a1c _⟩;have hR:OddR ne nf nw l ne nf nw (l.set ix { y with x:=X,y:=Y }):=OddR.set aO (λh=>by rw[hy]at h;exact⟨h.id,fX,fY,h.wt,h.nm⟩) (λh=>by rw[hy]at h;exact h);obtain⟨c1,z1⟩:=hO.p.cellP oM aO (i:=1) oM;obtain⟨c2,z2⟩:=hO.p.cellP oM aO (i:=2) oM;rw[hy]at c1 c2;replace c1:WD.cell? ⟨g,ix*7+1,none⟩=some (.int .i64 y.x):=c1;replace c2:WD.cell? ⟨g,ix*7+2,none⟩=some (.int .i64 y.y):=c2;have hX:=hO.p.setRow2 aO (i:=1) (j:=2) (y1:={ y with x:=X }) (y:={ y with x:=X,y:=Y }) (u:= .int .i64 X) (v:= .int .i64 Y) oM oM (by rw[hy];rfl) rfl;rw[hm]at b3 hX;replace hm:=Lib.hid hm;clear dz hy dZ;go_upto_region 35 with fail;refine zR4 λp=> ?_
  go_upto_region 36 with fail;refine zR9 λp=> ?_
  go_wp2_with fail;go_meet;subst Rq Rr;exact⟨_,_,_,_,_,_,_,_,_,⟨hX.up (Go.below_growBy _ _),hO.oe,hO.of,hO.ow⟩,hR⟩):P:=h
theorem odd10_anyK10.zCase {P:Prop}(h:P:=by exact zP0):P:=h
open odd10_anyK10 in
theorem b7u :a1d 10:=a1g
end
end Go.Proofs.YtfocdbjceedagaaGreatDoor
