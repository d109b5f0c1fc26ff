/-
  Parts.
-/
import Derived.Test.YteijfnkidefekaaGreatEaf
set_option linter.unusedVariables false
set_option linter.unusedSimpArgs false
set_option linter.unusedSectionVars false
set_option maxHeartbeats 8000000
set_option maxRecDepth 100000
namespace Go.Proofs.YteijfnkidefekaaGreat
open Tryz
section
open Go.RowKit Go.Shelf
structure On3 (wr:Wd)(B3 B4 B5:Nat)(ax ay ad bx by_ bd px py:Int)(W:Wd):Prop where
 bel:Below wr.heap.size wr W
 a:Blk W B3 #[.int .i64 ax,.int .i64 ay,.int .i64 ad] 211
 b:Blk W B4 #[.int .i64 bx,.int .i64 by_,.int .i64 bd] 211
 p:Blk W B5 #[.int .i64 px,.int .i64 py] 41
theorem On3.up {wr W W':Wd}{B3 B4 B5:Nat}{ax ay ad bx by_ bd px py:Int}(h:On3 wr B3 B4 B5 ax ay ad bx by_ bd px py W)(hb:Below W.heap.size W W'):On3 wr B3 B4 B5 ax ay ad bx by_ bd px py W' :=
 ⟨h.bel.trans (hb.mono h.bel.size),h.a.below hb h.a.lt,h.b.below hb h.b.lt,h.p.below hb h.p.lt⟩
def FOn (B3 B4 B5:Nat)(ax ay ad bx by_ bd px py:Int)(i:Nat)(v:Vu)(w:Wd):Prop :=
 match i with
 |0=>v= .agg #[.int .i64 ax,.int .i64 ay,.int .i64 ad]
 |1=>v= .agg #[.int .i64 bx,.int .i64 by_,.int .i64 bd]
 |2=>v= .agg #[.int .i64 px,.int .i64 py]
 |3=>v= .agg #[.int .i64 px,.int .i64 py,.int .i64 1]
 |4=>∃x,v= .int .i64 x
 |_=>False
theorem FOn.kept {B3 B4 B5:Nat}{ax ay ad bx by_ bd px py:Int}{i:Nat}{v:Vu}{w w':Wd}(h:FOn B3 B4 B5 ax ay ad bx by_ bd px py i v w)(hg:Below w.heap.size w w'):FOn B3 B4 B5 ax ay ad bx by_ bd px py i v w':=by
 unfold FOn at *;split at h
 all_goals first|exact h|(exact h)
theorem c5p (ax ay ad bx by_ bd px py:Int)(w:Wd)(f0:a0l ax)(f1:a0l ay)(f2:a0l ad)(f3:a0l bx)(f4:a0l by_)(f5:a0l bd)(f6:a0l px)(f7:a0l py) :
 Calls prog 140 #[.agg #[.int .i64 ax,.int .i64 ay,.int .i64 ad],.agg #[.int .i64 bx,.int .i64 by_,.int .i64 bd],.agg #[.int .i64 px,.int .i64 py]] w λe w'=>c6v e/\Below w.heap.size w w':=by
 go_enter func140,ntmps140;go_upto_region 1 with fail;have hm:On3 w w.heap.size (w.heap.size+1) (w.heap.size+1+1) ax ay ad bx by_ bd px py (((w.alloc (.cells #[.int .i64 ax,.int .i64 ay,.int .i64 ad] 211)).alloc (.cells #[.int .i64 bx,.int .i64 by_,.int .i64 bd] 211)).alloc (.cells #[.int .i64 px,.int .i64 py] 41)):=by
  have k1:=Blk.new (w.alloc (.cells #[.int .i64 ax,.int .i64 ay,.int .i64 ad] 211)) #[.int .i64 bx,.int .i64 by_,.int .i64 bd] 211;have k2:=Blk.new ((w.alloc (.cells #[.int .i64 ax,.int .i64 ay,.int .i64 ad] 211)).alloc (.cells #[.int .i64 bx,.int .i64 by_,.int .i64 bd] 211)) #[.int .i64 px,.int .i64 py] 41;simp only[World.size_alloc]at k1 k2;exact⟨zC,((Blk.new w _ _).alloc _).alloc _,k1.alloc _,k2⟩
 obtain⟨W1,ao⟩:=zE ((((w.alloc (.cells #[.int .i64 ax,.int .i64 ay,.int .i64 ad] 211)).alloc (.cells #[.int .i64 bx,.int .i64 by_,.int .i64 bd] 211)).alloc (.cells #[.int .i64 px,.int .i64 py] 41)));obtain⟨B5,lH⟩:=zE (w.heap.size+1+1);obtain⟨B4,jc⟩:=zE (w.heap.size+1);obtain⟨B3,dF⟩:=zE w.heap.size;rw[ao,lH,jc]at hm;rw[ao,lH,jc];have dy:On3 w B3 B4 B5 ax ay ad bx by_ bd px py W1:=dF▸hm;rw[dF];clear hm ao lH jc dF;refine Go.wp_region_rel 5 zM zM (λ_ W=>On3 w B3 B4 B5 ax ay ad bx by_ bd px py W) (λw w'=>Below w.heap.size w w') (FOn B3 B4 B5 ax ay ad bx by_ bd px py) (λ_ _ _ _ h g=>h.kept g) (dy.up (zR _ _).drew) ?_ ?_
 ·clear dy
  intro i o hi ho c bb W hc hM hA hD K hK;match i,hi,ho with
  |0,_,ho =>
   cases ho;have f3:=a0a (v:= .pointer (some ⟨B3,0,none⟩)) (hA.at_ (k:=3) zM);have z0:W.cell? ⟨B3,0,none⟩=some (.int .i64 ax):=hM.a.cell 0;have z1:W.cell? ⟨B3,1,none⟩=some (.int .i64 ay):=hM.a.cell 1;have z2:W.cell? ⟨B3,2,none⟩=some (.int .i64 ad):=hM.a.cell 2;exact yjy
  |1,_,ho =>
   cases ho;have f4:=a0a (v:= .pointer (some ⟨B4,0,none⟩)) (hA.at_ (k:=4) zM);have z0:W.cell? ⟨B4,0,none⟩=some (.int .i64 bx):=hM.b.cell 0;have z1:W.cell? ⟨B4,1,none⟩=some (.int .i64 by_):=hM.b.cell 1;have z2:W.cell? ⟨B4,2,none⟩=some (.int .i64 bd):=hM.b.cell 2;exact yjx
  |2,_,ho =>
   cases ho;have f5:=a0a (v:= .pointer (some ⟨B5,0,none⟩)) (hA.at_ (k:=5) zM);have z0:W.cell? ⟨B5,0,none⟩=some (.int .i64 px):=hM.p.cell 0;have z1:W.cell? ⟨B5,1,none⟩=some (.int .i64 py):=hM.p.cell 1;go_simp;exact hK (.agg #[.int .i64 px,.int .i64 py]) W rfl (zR _ _) hM
  |3,_,ho =>
   cases ho;have f11:=a0a (v:= .agg #[.int .i64 px,.int .i64 py]) (a0b hD 2 11 zM rfl rfl);go_simp;refine(a4p px py W).mono ?_;rintro e W'⟨rfl,hb⟩;go_simp;exact hK (.agg #[.int .i64 px,.int .i64 py,.int .i64 1]) W' rfl hb (hM.up hb)
  |4,_,ho =>
   cases ho;have f9:=a0a (v:= .agg #[.int .i64 ax,.int .i64 ay,.int .i64 ad]) (a0b hD 0 9 zM rfl rfl);have f10:=a0a (v:= .agg #[.int .i64 bx,.int .i64 by_,.int .i64 bd]) (a0b hD 1 10 zM rfl rfl);have f12:=a0a (v:= .agg #[.int .i64 px,.int .i64 py,.int .i64 1]) (a0b hD 3 12 zM rfl rfl);go_simp;refine(a4g _ _ _ _ _ _ _ _ _ W).mono ?_;rintro e W'⟨⟨x,rfl⟩,hb⟩;go_simp;exact hK (.int .i64 x) W' ⟨x,rfl⟩ hb (hM.up hb)
  |i+5,hi,_=>exact absurd hi xM
 ·intro bb W hM hA aa
  obtain⟨X,dM⟩:=(show ∃x,bb.eval (.tmp 13)= .int .i64 x from aa 4 xM _ _ rfl rfl);have az:=hA.frame (rT 9 (rF 5 (rT 33 ([])))) _ rfl zM;clear aa hA dy;obtain⟨f,hf⟩:=zDt bb;have g13:f 13= .int .i64 X:=by rw[<-hf,<-dM];rfl
  rw[hf]at az;clear hf dM;subst az;simp only[rT,rF,a1j,g13,Nat.reduceAdd];clear g13;simp only[zU];obtain⟨bel,ka,kb,kp⟩:=hM;obtain⟨a0,a1,a2⟩:=st3 ka;obtain⟨b0,b1,b2⟩:=st3 kb;obtain⟨p0,p1,-,-⟩:=pt2 kp;clear ka kb kp;by_cases hX:X=0
  ·have L8:(X != 0)=false:=by simp[hX]
   go_wp2_with (first
    |(go_at_call 153;refine(b9x _ _ _ _ _ _ yM yM yM yM yM).mono ?_;rintro e w'⟨⟨r,rfl⟩,aE⟩;obtain⟨p,rfl⟩:=a0j aE;clear aE))
   all_goals
    go_ret;exact⟨⟨_,rfl⟩,bel.trans (Below.mono zC bel.size)⟩
  ·have L8:(X != 0)=true:=by simp[hX]
   go_wp2_with fail;go_ret;exact⟨⟨_,rfl⟩,bel⟩
theorem b4q (ax ay ad bx by_ bd px py:Int)(w:Wd)(f1:a0l ay)(f2:a0l ad)(f4:a0l by_)(f5:a0l bd)(f7:a0l py) :
 Calls prog 141 #[.agg #[.int .i64 ax,.int .i64 ay,.int .i64 ad],.agg #[.int .i64 bx,.int .i64 by_,.int .i64 bd],.agg #[.int .i64 px,.int .i64 py]] w λe w'=>c8l e/\Below w.heap.size w w':=by
 go_enter func141,ntmps141;go_wp2_with (first
  |(go_at_call 139;refine(a4p _ _ _).mono ?_;rintro e w'⟨rfl,aE⟩;obtain⟨p,rfl⟩:=a0j aE;clear aE)
  |(go_at_call 154;refine(b9w _ _ _ _ _ _ yM yM yM).mono ?_;rintro e w'⟨⟨b,rfl⟩,aE⟩;obtain⟨p,rfl⟩:=a0j aE;clear aE)
  |(go_at_call 152;refine(a4g _ _ _ _ _ _ _ _ _ _).mono ?_;rintro e w'⟨⟨r,rfl⟩,aE⟩;obtain⟨p,rfl⟩:=a0j aE;clear aE))
 all_goals
  go_ret;exact⟨⟨_,rfl⟩,zC⟩
theorem b7z (a0 a1 a2 a3 a4 a5 a6 b0 b1 b2 b3 b4 b5 b6:Int)(w:Wd)(f1:a0l a1)(f2:a0l a2)(f4:a0l b1)(f5:a0l b2) :
 Calls prog 142 #[.agg #[.int .i64 a0,.int .i64 a1,.int .i64 a2,.int .i64 a3,.int .i64 a4,.int .i64 a5,.int .i64 a6],.agg #[.int .i64 b0,.int .i64 b1,.int .i64 b2,.int .i64 b3,.int .i64 b4,.int .i64 b5,.int .i64 b6]] w λe w'=>c6v e/\Below w.heap.size w w':=by
 go_enter func142,ntmps142;go_wp2_with (first
  |(go_at_call 155;refine(b0n _ _ _ _ _ yM yM yM yM).mono ?_;rintro e w'⟨⟨r,rfl⟩,aE⟩;obtain⟨p,rfl⟩:=a0j aE;clear aE)
  |(go_at_call 152;refine(a4g _ _ _ _ _ _ _ _ _ _).mono ?_;rintro e w'⟨⟨r,rfl⟩,aE⟩;obtain⟨p,rfl⟩:=a0j aE;clear aE))
 all_goals
  go_ret;exact⟨⟨_,rfl⟩,zC⟩
theorem c5q {S:BS}{W:Wd}{x y d:Int}(hx:a0l x)(hy:a0l y)(hd:a0l d):TB S W 211 #[.int .i64 x,.int .i64 y,.int .i64 d]:=b4p rfl rfl λi u ct h1 h2=>by
 match i with
 |0=>cases h1;cases h2;exact CT.ok_int hx
 |1=>cases h1;cases h2;exact CT.ok_int hy
 |2=>cases h1;cases h2;exact CT.ok_int hd
 |i+3=>simp at h1
structure Tr (w:Wd)(BT:Nat)(c:Array Value)(S:BS)(W:Wd):Prop where
 ev:Ev noB noB w S W
 b:Blk W BT c 215
 n:¬S BT
 l:w.heap.size<=BT
theorem Tr.evo {w W W':Wd}{BT:Nat}{c:Array Value}{S S':BS}(h:Tr w BT c S W)(he:Ev noB S W S' W'):Tr w BT c S' W':=⟨h.ev.trans he,he.blk h.b h.n (λh=>h),he.not h.b.lt h.n,h.l⟩
theorem Tr.set {w W:Wd}{BT:Nat}{c:Array Value}{S:BS}(h:Tr w BT c S W)(i:Nat)(v:Vu):Tr w BT (c.setIfInBounds i v) S (W.setCell ⟨BT,i,none⟩ v) :=
 ⟨h.ev.own (a0u W BT i v) (λr e=>by cases e;exact⟨h.n,h.l⟩),h.b.set i v,h.n,h.l⟩
theorem Ev.low {w W:Wd}{S:BS}(h:Ev noB noB w S W):Below w.heap.size w W:=h.below (λ_ h=>h.elim) (λ_ h=>h.elim) (yR _)
structure TrM (wr:Wd)(BT:Nat)(c:Array Value)(W:Wd):Prop where
 bel:Below wr.heap.size wr W
 b:Blk W BT c 215
theorem TrM.up {wr W W':Wd}{BT:Nat}{c:Array Value}(h:TrM wr BT c W)(hb:Below W.heap.size W W'):TrM wr BT c W':=⟨h.bel.trans (hb.mono h.bel.size),h.b.below hb h.b.lt⟩
def FTc (wr:Wd)(b off m cap k:Nat)(id l r:Int)(i:Nat)(v:Vu)(w:Wd):Prop :=
 match i with
 |0=>v= .slice (some ⟨b,off,none⟩) m cap
 |1=>v= .int .i64 (k:Nat)
 |2=>v= .pointer (some ⟨b,off+k*4,none⟩)
 |3=>v= .pointer (some ⟨b,off+k*4,none⟩)
 |4=>v= .int .i64 id
 |5=>v= .slice (some ⟨b,off,none⟩) m cap
 |6=>v= .int .i64 (k:Nat)
 |7=>v= .pointer (some ⟨b,off+k*4,none⟩)
 |8=>v= .pointer (some ⟨b,off+k*4+2,none⟩)
 |9=>v= .int .i64 l
 |10=>v= .slice (some ⟨b,off,none⟩) m cap
 |11=>v= .int .i64 (k:Nat)
 |12=>v= .pointer (some ⟨b,off+k*4,none⟩)
 |13=>v= .pointer (some ⟨b,off+k*4+3,none⟩)
 |14=>v= .int .i64 r
 |15=>v= .agg #[.int .i64 id,.slice none 0 0,.int .i64 l,.int .i64 r]
 |16=>∃B,v= .pointer (some ⟨B,0,none⟩)/\wr.heap.size<=B/\Blk w B #[.int .i64 0,.slice none 0 0,.int .i64 0,.int .i64 0] 215
 |_=>False
theorem FTc.kept {wr:Wd}{b off m cap k:Nat}{id l r:Int}{i:Nat}{v:Vu}{w w':Wd}(h:FTc wr b off m cap k id l r i v w)(hg:Below w.heap.size w w'):FTc wr b off m cap k id l r i v w':=by
 unfold FTc at *;exact yiz
def FTr (wr:Wd)(BT b off m cap k pb po q ak ci:Nat)(x y:Int)(tv:Vu)(i:Nat)(v:Vu)(w:Wd):Prop :=
 match i with
 |0=>v= .pointer (some ⟨BT,1,none⟩)
 |1=>v=tv
 |2=>v= .slice (some ⟨b,off,none⟩) m cap
 |3=>v= .int .i64 (k:Nat)
 |4=>v= .pointer (some ⟨b,off+k*4,none⟩)
 |5=>v= .pointer (some ⟨b,off+k*4+1,none⟩)
 |6=>v= .slice (some ⟨pb,po,none⟩) q ak
 |7=>v= .int .i64 (ci:Nat)
 |8=>v= .pointer (some ⟨pb,po+ci*2,none⟩)
 |9=>v= .agg #[.int .i64 x,.int .i64 y]
 |10=>v= .agg #[.int .i64 x,.int .i64 y,.int .i64 1]
 |11=>∃L,v= .slice (some ⟨L,0,none⟩) 1 1/\wr.heap.size<=L/\Blk w L #[.int .i64 x,.int .i64 y,.int .i64 1] 211
 |_=>False
theorem FTr.kept {wr:Wd}{BT b off m cap k pb po q ak ci:Nat}{x y:Int}{tv:Vu}{i:Nat}{v:Vu}{w w':Wd}(h:FTr wr BT b off m cap k pb po q ak ci x y tv i v w)(hg:Below w.heap.size w w'):FTr wr BT b off m cap k pb po q ak ci x y tv i v w':=by
 unfold FTr at *;exact yiy
theorem b8a (S:BS)(w:Wd)(hT:TW S w)(ev:Vu)(m:Nat)(cT:SL S w 71 ev m)(hm:m<=100) :
 Calls prog 115 #[ev] w λe w'=>∃S' v,e= .returned v/\(∃n,SL S' w' 215 v n/\n<=100)/\Ev noB noB w S' w':=by
 obtain⟨ea,cap,rfl,sX⟩:=cT.form;go_enter func115,ntmps115;go_wp2_with fail;go_loopw [3,4] (λv kk wr=>∃(k:Nat) (S':BS),k<=m/\kk= .int .i64 (k:Nat)/\SL S' wr 215 v k/\Ev noB noB w S' wr) (λ_ kk _=>m-(intOf kk).toNat)
 case atStart=>exact⟨0,noB,Nat.zero_le _,rfl,SL.nil _ _ _,Ev.refl (TW.none _)⟩
 case round =>
  obtain⟨k,S1,hk,rfl,bj,bg⟩:=hrel;by_cases ab:k<m
  ·have aj:(k:Int)<(m:Int):=xM
   obtain⟨b,off,bk,bq,-,-⟩:=cT.some_ xM;simp only[Value.slice.injEq,true_and]at bq;obtain⟨rfl,rfl⟩:=bq;obtain⟨id,l,r,lv,q,c0,c1,c2,c3,f0,f2,f3,aC,hq⟩:=SL.edge hT cT ab;obtain⟨la,ak,rfl,-⟩:=aC.form;have gV:∀W,Below wr.heap.size wr W->W.cell? ⟨b,off+k*4,none⟩=some (.int .i64 id):=λW h=>((bg.low.trans (h.mono bg.size)).cell (p:=⟨b,_,none⟩) (World.block_lt_of_cell? _ _ c0)).trans c0
   have aR:∀W,Below wr.heap.size wr W->W.cell? ⟨b,off+k*4+1,none⟩=some (.slice la q ak):=λW h=>((bg.low.trans (h.mono bg.size)).cell (p:=⟨b,_,none⟩) (World.block_lt_of_cell? _ _ c1)).trans c1
   have fp:∀W,Below wr.heap.size wr W->W.cell? ⟨b,off+k*4+2,none⟩=some (.int .i64 l):=λW h=>((bg.low.trans (h.mono bg.size)).cell (p:=⟨b,_,none⟩) (World.block_lt_of_cell? _ _ c2)).trans c2
   have lM:∀W,Below wr.heap.size wr W->W.cell? ⟨b,off+k*4+3,none⟩=some (.int .i64 r):=λW h=>((bg.low.trans (h.mono bg.size)).cell (p:=⟨b,_,none⟩) (World.block_lt_of_cell? _ _ c3)).trans c3
   go_upto_region 5 with fail;refine Go.wp_region_rel 17 zM zM (λ_ W=>Below wr.heap.size wr W) (λw w'=>Below w.heap.size w w') (FTc wr b off m cap k id l r) (λ_ _ _ _ h g=>h.kept g) (zR _ _).drew ?_ ?_
   ·clear bj bg cT aC hT c0 c1 c2 c3 aR
    intro i o hi ho c bb W hc hM hA hD K hK;match i,hi,ho with
    |0,_,ho =>
     exact ycd
    |1,_,ho =>
     exact ycv
    |2,_,ho =>
     cases ho;have f13:=a0a (v:= .slice (some ⟨b,off,none⟩) m cap) (a0b hD 0 13 zM rfl rfl);have f14:=a0a (v:= .int .i64 (k:Nat)) (a0b hD 1 14 zM rfl rfl);exact ycq
    |3,_,ho =>
     cases ho;have f15:=a0a (v:= .pointer (some ⟨b,off+k*4,none⟩)) (a0b hD 2 15 zM rfl rfl);exact ycq
    |4,_,ho =>
     cases ho;have f16:=a0a (v:= .pointer (some ⟨b,off+k*4,none⟩)) (a0b hD 3 16 zM rfl rfl);have z0:W.cell? ⟨b,off+k*4,none⟩=some (.int .i64 id):=gV W hM;go_simp;exact hK (.int .i64 id) W rfl (zR _ _) hM
    |5,_,ho =>
     exact ycd
    |6,_,ho =>
     exact ycv
    |7,_,ho =>
     cases ho;have f18:=a0a (v:= .slice (some ⟨b,off,none⟩) m cap) (a0b hD 5 18 zM rfl rfl);have f19:=a0a (v:= .int .i64 (k:Nat)) (a0b hD 6 19 zM rfl rfl);exact ycq
    |8,_,ho =>
     cases ho;have f20:=a0a (v:= .pointer (some ⟨b,off+k*4,none⟩)) (a0b hD 7 20 zM rfl rfl);exact yjn
    |9,_,ho =>
     cases ho;have f21:=a0a (v:= .pointer (some ⟨b,off+k*4+2,none⟩)) (a0b hD 8 21 zM rfl rfl);have z0:W.cell? ⟨b,off+k*4+2,none⟩=some (.int .i64 l):=fp W hM;go_simp;exact hK (.int .i64 l) W rfl (zR _ _) hM
    |10,_,ho =>
     exact ycd
    |11,_,ho =>
     exact ycv
    |12,_,ho =>
     cases ho;have f23:=a0a (v:= .slice (some ⟨b,off,none⟩) m cap) (a0b hD 10 23 zM rfl rfl);have f24:=a0a (v:= .int .i64 (k:Nat)) (a0b hD 11 24 zM rfl rfl);exact ycq
    |13,_,ho =>
     cases ho;have f25:=a0a (v:= .pointer (some ⟨b,off+k*4,none⟩)) (a0b hD 12 25 zM rfl rfl);exact yjq
    |14,_,ho =>
     cases ho;have f26:=a0a (v:= .pointer (some ⟨b,off+k*4+3,none⟩)) (a0b hD 13 26 zM rfl rfl);have z0:W.cell? ⟨b,off+k*4+3,none⟩=some (.int .i64 r):=lM W hM;go_simp;exact hK (.int .i64 r) W rfl (zR _ _) hM
    |15,_,ho =>
     cases ho;have f17:=a0a (v:= .int .i64 id) (a0b hD 4 17 zM rfl rfl);have f22:=a0a (v:= .int .i64 l) (a0b hD 9 22 zM rfl rfl);have f27:=a0a (v:= .int .i64 r) (a0b hD 14 27 zM rfl rfl);go_simp;exact hK (.agg #[.int .i64 id,.slice none 0 0,.int .i64 l,.int .i64 r]) W rfl (zR _ _) hM
    |16,_,ho =>
     cases ho;go_simp;exact hK (.pointer (some ⟨W.heap.size,0,none⟩)) _ ⟨_,rfl,hM.size,Blk.new _ _ _⟩ ((zR _ _).alloc (yR _) _) (hM.alloc hM.size _)
    |i+17,hi,_=>exact absurd hi xM
   ·intro bb W hM hA aa
    have xK:bb.eval (.tmp 28)= .agg #[.int .i64 id,.slice none 0 0,.int .i64 l,.int .i64 r]:=aa 15 xM _ _ rfl rfl;obtain⟨BT,xL,lI,pk⟩:=(show ∃B,bb.eval (.tmp 5)= .pointer (some ⟨B,0,none⟩)/\wr.heap.size<=B/\Blk W B #[.int .i64 0,.slice none 0 0,.int .i64 0,.int .i64 0] 215 from aa 16 xM _ _ rfl rfl);have az:=hA.frame (rT 5 (rF 1 (rT 7 (rF 16 (rT 29 ([])))))) _ rfl zM;clear aa hA;obtain⟨f,hf⟩:=zDt bb;have Ix:f 28= .agg #[.int .i64 id,.slice none 0 0,.int .i64 l,.int .i64 r]:=by rw[<-hf,<-xK];rfl
    have g5:f 5= .pointer (some ⟨BT,0,none⟩):=by rw[<-hf,<-xL];rfl
    rw[hf]at az;clear hf xK xL;subst az;simp only[rT,rF,a1j,Ix,g5,Nat.reduceAdd];clear Ix g5;simp only[zU];have pO:=pk.frozen 0;have pP:=pk.frozen 1;have L9:=pk.frozen 2;have Ma:=pk.frozen 3;obtain⟨q0,q1,q2,q3⟩:=(⟨pk.cell 0,pk.cell 1,pk.cell 2,pk.cell 3⟩:W.cell? ⟨BT,0,none⟩=some (.int .i64 0)/\W.cell? ⟨BT,1,none⟩=some (.slice none 0 0)/\W.cell? ⟨BT,2,none⟩=some (.int .i64 0)/\W.cell? ⟨BT,3,none⟩=some (.int .i64 0));go_upto_region 6 with fail;refine a0n (λW5 bL=> ?_);have hn:¬S1 BT:=λh=>by have:=bg.ok.lt h;omega
    have jG:Ev noB S1 wr S1 W:=Ev.of_below bg.ok hM;have gx:Tr w BT #[.int .i64 id,.slice none 0 0,.int .i64 l,.int .i64 r] S1 W5/\Shp S1 W W5:=by
     have h1:Tr w BT _ S1 W:=⟨bg.trans jG,pk,hn,Nat.le_trans bg.size lI⟩;have h2:=(((h1.set 0 (.int .i64 id)).set 1 (.slice none 0 0)).set 2 (.int .i64 l)).set 3 (.int .i64 r);rw[bL];exact⟨by simpa using h2,(((Shp.set hn 0 _).trans (Shp.set hn 1 _) (λ_ h=>h)).trans (Shp.set hn 2 _) (λ_ h=>h)).trans (Shp.set hn 3 _) (λ_ h=>h)⟩
    have xN:=(jG.sl bj).mono (λ_ h=>h) gx.2;replace gx:=gx.1;clear bL q0 q1 q2 q3 pO pP L9 Ma pk hM jG hn gV aR fp lM bj bg lI;obtain⟨ov,Ba⟩:∃v,v=u3:=⟨_,rfl⟩;subst Ba;go_wp2_with fail;go_loopw [6] (λii wx=>∃(ci:Nat) (S2:BS) (tv:Vu),ci<=q/\ii= .int .i64 (ci:Nat)/\SL S2 wx 211 tv ci/\SL S2 wx 215 ov k/\Tr w BT #[.int .i64 id,tv,.int .i64 l,.int .i64 r] S2 wx) (λii _=>q-(intOf ii).toNat)
    case atStart=>exact⟨0,S1,_,Nat.zero_le _,rfl,SL.nil _ _ _,xN,gx⟩
    case round =>
     clear gx xN;obtain⟨ci,S2,tv,mB,rfl,ai,jF,gx⟩:=hrel;have dv:=gx.ev.low;have aR:∀W,Below wr.heap.size wr W->W.cell? ⟨b,off+k*4+1,none⟩=some (.slice la q ak):=λW h=>((dv.trans (h.mono gx.ev.size)).cell (p:=⟨b,_,none⟩) (World.block_lt_of_cell? _ _ c1)).trans c1
     have Mb:=aR wr (zR _ _);by_cases gZ:ci<q
     ·have s9:(ci:Int)<(q:Int):=xM
      obtain⟨pb,po,qc,fP,-,-⟩:=aC.some_ xM;simp only[Value.slice.injEq,true_and]at fP;obtain⟨rfl,rfl⟩:=fP;obtain⟨x,y,cx,cy,fx,fy⟩:=SL.point hT aC gZ;have hx:∀W,Below wr.heap.size wr W->W.cell? ⟨pb,po+ci*2,none⟩=some (.int .i64 x):=λW h=>((dv.trans (h.mono gx.ev.size)).cell (p:=⟨pb,_,none⟩) (World.block_lt_of_cell? _ _ cx)).trans cx
      have hy:∀W,Below wr.heap.size wr W->W.cell? ⟨pb,po+ci*2+1,none⟩=some (.int .i64 y):=λW h=>((dv.trans (h.mono gx.ev.size)).cell (p:=⟨pb,_,none⟩) (World.block_lt_of_cell? _ _ cy)).trans cy
      go_upto_region 9 with fail;refine Go.wp_region_rel 12 zM zM (λ_ W=>TrM wr BT #[.int .i64 id,tv,.int .i64 l,.int .i64 r] W) (λw w'=>Below w.heap.size w w') (FTr wr BT b off m cap k pb po q ak ci x y tv) (λ_ _ _ _ h g=>h.kept g) ((⟨zR _ _,gx.b⟩:TrM wr BT #[.int .i64 id,tv,.int .i64 l,.int .i64 r] wr).up (zR _ _).drew) ?_ ?_
      ·clear ai jF cT aC hT c0 c1 c2 c3 Mb cx cy gx dv
       intro i o hi ho c bb W hc hM hA hD K hK;match i,hi,ho with
       |0,_,ho =>
        cases ho;have f5:=a0a (v:= .pointer (some ⟨BT,0,none⟩)) (hA.at_ (k:=5) zM);go_simp;exact hK (.pointer (some ⟨BT,1,none⟩)) W rfl (zR _ _) hM
       |1,_,ho =>
        cases ho;have f39:=a0a (v:= .pointer (some ⟨BT,1,none⟩)) (a0b hD 0 39 zM rfl rfl);have z0:W.cell? ⟨BT,1,none⟩=some (tv):=hM.b.cell 1;go_simp;exact hK (tv) W rfl (zR _ _) hM
       |2,_,ho =>
        exact ycd
       |3,_,ho =>
        exact ycv
       |4,_,ho =>
        cases ho;have f41:=a0a (v:= .slice (some ⟨b,off,none⟩) m cap) (a0b hD 2 41 zM rfl rfl);have f42:=a0a (v:= .int .i64 (k:Nat)) (a0b hD 3 42 zM rfl rfl);exact ycq
       |5,_,ho =>
        cases ho;have f43:=a0a (v:= .pointer (some ⟨b,off+k*4,none⟩)) (a0b hD 4 43 zM rfl rfl);go_simp;exact hK (.pointer (some ⟨b,off+k*4+1,none⟩)) W rfl (zR _ _) hM
       |6,_,ho =>
        cases ho;have f44:=a0a (v:= .pointer (some ⟨b,off+k*4+1,none⟩)) (a0b hD 5 44 zM rfl rfl);have z0:W.cell? ⟨b,off+k*4+1,none⟩=some (.slice (some ⟨pb,po,none⟩) q ak):=aR W hM.bel;go_simp;exact hK (.slice (some ⟨pb,po,none⟩) q ak) W rfl (zR _ _) hM
       |7,_,ho =>
        cases ho;have f6:=a0a (v:= .int .i64 (ci:Nat)) (hA.at_ (k:=6) zM);go_simp;exact hK (.int .i64 (ci:Nat)) W rfl (zR _ _) hM
       |8,_,ho =>
        cases ho;have f45:=a0a (v:= .slice (some ⟨pb,po,none⟩) q ak) (a0b hD 6 45 zM rfl rfl);have f46:=a0a (v:= .int .i64 (ci:Nat)) (a0b hD 7 46 zM rfl rfl);go_simp;exact hK (.pointer (some ⟨pb,po+ci*2,none⟩)) W rfl (zR _ _) hM
       |9,_,ho =>
        cases ho;have f47:=a0a (v:= .pointer (some ⟨pb,po+ci*2,none⟩)) (a0b hD 8 47 zM rfl rfl);have z0:W.cell? ⟨pb,po+ci*2,none⟩=some (.int .i64 x):=hx W hM.bel;have z1:W.cell? ⟨pb,po+ci*2+1,none⟩=some (.int .i64 y):=hy W hM.bel;go_simp;exact hK (.agg #[.int .i64 x,.int .i64 y]) W rfl (zR _ _) hM
       |10,_,ho =>
        cases ho;have f48:=a0a (v:= .agg #[.int .i64 x,.int .i64 y]) (a0b hD 9 48 zM rfl rfl);go_simp;refine(a4p x y W).mono ?_;rintro e W'⟨rfl,hb⟩;go_simp;exact hK (.agg #[.int .i64 x,.int .i64 y,.int .i64 1]) W' rfl hb (hM.up hb)
       |11,_,ho =>
        cases ho;have f49:=a0a (v:= .agg #[.int .i64 x,.int .i64 y,.int .i64 1]) (a0b hD 10 49 zM rfl rfl);exact ygm
       |i+12,hi,_=>exact absurd hi xM
      ·intro bb W hM hA aa
       obtain⟨L,jQ,xI,kL⟩:=(show ∃L,bb.eval (.tmp 50)= .slice (some ⟨L,0,none⟩) 1 1/\wr.heap.size<=L/\Blk W L #[.int .i64 x,.int .i64 y,.int .i64 1] 211 from aa 11 xM _ _ rfl rfl);have eC:bb.eval (.tmp 40)=tv:=aa 1 xM _ _ rfl rfl;have az:=hA.frame (rT 39 (rF 12 (rT 7 ([])))) _ rfl zM;clear aa hA;obtain⟨f,hf⟩:=zDt bb;have xP:f 50= .slice (some ⟨L,0,none⟩) 1 1:=by rw[<-hf,<-jQ];rfl
       have vP:f 40=tv:=by rw[<-hf,<-eC];rfl
       rw[hf]at az;clear hf jQ eC;subst az;simp only[rT,rF,a1j,xP,vP,Nat.reduceAdd];clear xP vP;simp only[zU];have jG:Ev noB S2 wr (λb=>S2 b\/b=L) W:=(Ev.of_below gx.ev.ok hM.bel).adopt xI kL (c5q fx fy ⟨jM,jM⟩);have h4:=gx.evo jG;have Dr:=jG.sl ai;have sW:=jG.sl jF;have Dp:SL (λb=>S2 b\/b=L) W 211 (.slice (some ⟨L,0,none⟩) 1 1) 1:=SL.blk (.inr rfl) kL (by show 1*3<=3;omega);clear gx ai jF hM jG dv;go_wp2_with (first
        |(at_builtin;refine a1h (X:=noB) h4.ev.ok qM _ _ 213 qM underlying213 b0k qM Dr qM Dp xM ?_;intro v9 S9 w9 aQ cg;obtain⟨a9,c9,rfl,-⟩:=aQ.form;have h5:=h4.evo cg;have o1:w9.cell? ⟨BT,1,none⟩=some tv:=h5.b.cell 1;have L5:=h5.b.frozen 1))
       go_roundw
       case rel=>exact⟨ci+1,S9,_,xM,by go_num,SL.mono aQ (λ_ h=>h) (Shp.set h5.n _ _),SL.mono (cg.sl sW) (λ_ h=>h) (Shp.set h5.n _ _),by have h6:=h5.set 1 (.slice a9 (ci+1) c9);simpa using h6⟩
       case measure=>simp[intOf];omega
     ·obtain rfl:ci=q:=xM
      have aT:¬(ci:Int)<(ci:Int):=xM;obtain⟨ta,tc,rfl,-⟩:=ai.form;obtain⟨t0,t1,t2,t3⟩:=(⟨gx.b.cell 0,gx.b.cell 1,gx.b.cell 2,gx.b.cell 3⟩:wr.cell? ⟨BT,0,none⟩=some (.int .i64 id)/\wr.cell? ⟨BT,1,none⟩=some (.slice ta ci tc)/\wr.cell? ⟨BT,2,none⟩=some (.int .i64 l)/\wr.cell? ⟨BT,3,none⟩=some (.int .i64 r));go_wp2_with (first
       |(at_builtin;refine a0x gx.ev.ok qM _ _ 186 qM underlying186 a5p qM jF qM rfl (c3d f0 f2 f3 ai hq) rfl xM ?_;intro v9 S9 w9 aQ cg))
      go_roundw
      case rel=>exact⟨k+1,S9,xM,by go_num,aQ,gx.ev.trans cg⟩
      case measure=>simp[intOf];omega
  ·obtain rfl:k=m:=xM
   have aT:¬(k:Int)<(k:Int):=xM;go_wp2_with fail;go_ret;exact⟨S1,_,rfl,⟨k,bj,hm⟩,bg⟩
theorem SL.trace {S:BS}{W:Wd}{b off n cap:Nat}(hT:TW S W)(h:SL S W 215 (.slice (some ⟨b,off,none⟩) n cap) n){k:Nat}(hk:k<n):∃id l r lv m,W.cell? ⟨b,off+k*4,none⟩=some (.int .i64 id)/\W.cell? ⟨b,off+k*4+1,none⟩=some lv/\W.cell? ⟨b,off+k*4+2,none⟩=some (.int .i64 l)/\W.cell? ⟨b,off+k*4+3,none⟩=some (.int .i64 r)/\a0l id/\a0l l/\a0l r/\SL S W 211 lv m/\m<=100:=by
 obtain⟨u0,c0,h0⟩:=h.cell hT a5p hk 0 .int rfl;obtain⟨u1,c1,h1⟩:=h.cell hT a5p hk 1 (.sl 211) rfl;obtain⟨u2,c2,h2⟩:=h.cell hT a5p hk 2 .int rfl;obtain⟨u3,c3,h3⟩:=h.cell hT a5p hk 3 .int rfl;exact ygh
theorem SL.spot {S:BS}{W:Wd}{b off n cap:Nat}(hT:TW S W)(h:SL S W 211 (.slice (some ⟨b,off,none⟩) n cap) n){k:Nat}(hk:k<n):∃x y d,W.cell? ⟨b,off+k*3,none⟩=some (.int .i64 x)/\W.cell? ⟨b,off+k*3+1,none⟩=some (.int .i64 y)/\W.cell? ⟨b,off+k*3+2,none⟩=some (.int .i64 d)/\a0l x/\a0l y/\a0l d:=by
 obtain⟨u0,c0,h0⟩:=h.cell hT b0k hk 0 .int rfl;obtain⟨u1,c1,h1⟩:=h.cell hT b0k hk 1 .int rfl;obtain⟨u2,c2,h2⟩:=h.cell hT b0k hk 2 .int rfl;obtain⟨x,rfl,f0⟩:=h0.i rfl;obtain⟨y,rfl,f1⟩:=h1.i rfl;obtain⟨d,rfl,f2⟩:=h2.i rfl;exact⟨x,y,d,c0,c1,c2,f0,f1,f2⟩
structure PP (w:Wd)(B3:Nat)(px py:Int)(W:Wd):Prop where
 bel:Below w.heap.size w W
 p:Blk W B3 #[.int .i64 px,.int .i64 py] 41
theorem PP.up {w W W':Wd}{B3:Nat}{px py:Int}(h:PP w B3 px py W)(hb:Below W.heap.size W W'):PP w B3 px py W':=⟨h.bel.trans (hb.mono h.bel.size),h.p.below hb h.p.lt⟩
theorem PP.old {w W:Wd}{B3:Nat}{px py:Int}(h:PP w B3 px py W){ad:Addr}{v:Vu}(hc:w.cell? ad=some v):W.cell? ad=some v:=(h.bel.cell (World.block_lt_of_cell? _ _ hc)).trans hc
abbrev a2w (y0 y1 y2 y3 y4 y5 y6:Int):Array Value:= #[.int .i64 y0,.int .i64 y1,.int .i64 y2,.int .i64 y3,.int .i64 y4,.int .i64 y5,.int .i64 y6]
structure PQ (w:Wd)(B3:Nat)(px py:Int)(B9:Nat)(W:Wd):Prop where
 pp:PP w B3 px py W
 q:∃y0 y1 y2 y3 y4 y5 y6,Blk W B9 (a2w y0 y1 y2 y3 y4 y5 y6) 217/\a0l y1/\a0l y2
 l9:w.heap.size<=B9
 d:B3≠B9
theorem PQ.up {w W W':Wd}{B3 B9:Nat}{px py:Int}(h:PQ w B3 px py B9 W)(hb:Below W.heap.size W W'):PQ w B3 px py B9 W':=by
 obtain⟨y0,y1,y2,y3,y4,y5,y6,k,f1,f2⟩:=h.q;exact⟨h.pp.up hb,⟨y0,y1,y2,y3,y4,y5,y6,k.below hb k.lt,f1,f2⟩,h.l9,h.d⟩
theorem b9y {W:Wd}{B:Nat}{y0 y1 y2 y3 y4 y5 y6:Int}{t:Td}(h:Blk W B (a2w y0 y1 y2 y3 y4 y5 y6) t):(W.cell? ⟨B,0,none⟩=some (.int .i64 y0)/\W.cell? ⟨B,1,none⟩=some (.int .i64 y1)/\W.cell? ⟨B,2,none⟩=some (.int .i64 y2)/\W.cell? ⟨B,3,none⟩=some (.int .i64 y3)/\W.cell? ⟨B,4,none⟩=some (.int .i64 y4)/\W.cell? ⟨B,5,none⟩=some (.int .i64 y5)/\W.cell? ⟨B,6,none⟩=some (.int .i64 y6)) /\
 W.frozen? ⟨B,0,none⟩=false/\W.frozen? ⟨B,1,none⟩=false/\W.frozen? ⟨B,2,none⟩=false/\W.frozen? ⟨B,3,none⟩=false/\W.frozen? ⟨B,4,none⟩=false/\W.frozen? ⟨B,5,none⟩=false/\W.frozen? ⟨B,6,none⟩=false :=
 ⟨⟨h.cell 0,h.cell 1,h.cell 2,h.cell 3,h.cell 4,h.cell 5,h.cell 6⟩,h.frozen 0,h.frozen 1,h.frozen 2,h.frozen 3,h.frozen 4,h.frozen 5,h.frozen 6⟩
structure AtW (wr:Wd)(P Q b off k:Nat)(ax ay ad bx by_ bd l r:Int)(W:Wd):Prop where
 bel:Below wr.heap.size wr W
 p:Blk W P #[.int .i64 ax,.int .i64 ay,.int .i64 ad] 211
 q:Blk W Q #[.int .i64 bx,.int .i64 by_,.int .i64 bd] 211
 c2:W.cell? ⟨b,off+k*4+2,none⟩=some (.int .i64 l)
 c3:W.cell? ⟨b,off+k*4+3,none⟩=some (.int .i64 r)
theorem AtW.up {wr W W':Wd}{P Q b off k:Nat}{ax ay ad bx by_ bd l r:Int}(h:AtW wr P Q b off k ax ay ad bx by_ bd l r W)(hb:Below W.heap.size W W'):AtW wr P Q b off k ax ay ad bx by_ bd l r W' :=
 ⟨h.bel.trans (hb.mono h.bel.size),h.p.below hb h.p.lt,h.q.below hb h.q.lt,(hb.cell (World.block_lt_of_cell? _ _ h.c2)).trans h.c2,(hb.cell (World.block_lt_of_cell? _ _ h.c3)).trans h.c3⟩
section
variable {P:Program}
theorem b2g {W:Wd}{B:Nat}{c:Array Value}{t:Td}(h:Blk W B c t)(cs:Array Value):Blk (W.setRow B cs) B cs t/\W.grownBy (W.setRow B cs) (some B) :=
 ⟨setRow_heap W B c cs t (0,0) h,rfl,rfl,rfl,by simp[World.setRow],λk _ hk=>setRow_other W B k _ (λe=>hk (by rw[e]))⟩
theorem a2j {ops:Array Oper}{rest:List Oper}{o:Oper}{a:Act}{w:Wd}{Q:Exit->Act->World->Prop}(bP:o.guard=none)(ty:Td)(x y:Operand)(ho:o.op= .store ty x y)
 (B:Nat) (cs:Array Value) (hx:a.eval x= .pointer (some ⟨B,0,none⟩)) (hy:a.eval y= .agg cs) (t:Td) (old:Array Value) (hB:Blk w B old t) (hi:(P.info? ty).map (·.size)=some cs.size)
 (hold:old.size=cs.size) (h1:cs.all (·.oneCell')=true) (h:∀w',Blk w' B cs t->w.grownBy w' (some B)->wpList P ops Q rest (a.put o.dst undef) w'):wpList P ops Q (o::rest) a w :=
 wpList_plain bP λ_ hK=>by
  obtain⟨k1,k2⟩:=b2g hB cs;exact wp_store_row ty x y ho B cs hx hy t old hB hi hold h1 (hK _ _ (h _ k1 k2))
end
theorem c3i (n m:Int)(w:Wd)(hn:a0l n)(h1:1<=m)(h2:m<=1000000):Calls prog 85 #[.int .i64 n,.int .i64 m] w λe w'=>∃r,e= .returned (.int .i64 r)/\0<=r/\r<m/\w=w':=by
 refine(a3w n m w hn h1 xM).mono ?_;rintro e w'⟨rfl,rfl⟩;exact⟨_,rfl,Int.emod_nonneg _ xM,Int.emod_lt_of_pos _ xM,rfl⟩
theorem c3j (lv:Vu)(ls:List Int)(i j:Nat)(w:Wd)(hI:Ints w.heap.size w lv ls)(hl:b2e ls.length)(hi:i<=4)(hj:j<=4) :
 Calls prog 81 #[lv,.int .i64 i,.int .i64 j] w λe w'=>(∃x y,e= .returned (.agg #[.int .i64 x,.int .i64 y])/\a0l x/\a0l y)/\Below w.heap.size w w':=by
 obtain⟨q,hq⟩:∃q:Nat,4*j+i=q:=⟨_,rfl⟩;have w1:IntKind.i64.wrap (4*(j:Int))=4*(j:Int):=a0p xM xM;have w2:IntKind.i64.wrap (4*(j:Int)+(i:Int))=q:=by rw[a0p xM xM];omega
 have w3:IntKind.i64.wrap (2*(q:Int))=2*(q:Int):=a0p xM xM;have w4:IntKind.i64.wrap (2*(q:Int)+1)=2*(q:Int)+1:=a0p xM xM;have e2:4*(j:Int)+(i:Int)=q:=xM;obtain⟨a,cap,rfl,hc⟩:=hI;by_cases ab:2*q+1<ls.length
 ·have aj:2*(q:Int)+1<(ls.length:Int):=xM
  have Ds:2*(q:Int)<(ls.length:Int):=xM;obtain⟨b,off,rfl,hb,f0,c0⟩:=hc (2*q) xM;obtain⟨b',dK,bq,-,f1,c1⟩:=hc (2*q+1) ab;simp only[Option.some.injEq,Addr.mk.injEq,and_true]at bq;obtain⟨rfl,rfl⟩:=bq;obtain⟨x,hx⟩:=zE (ls[2*q]);obtain⟨y,hy⟩:=zE (ls[2*q+1]);rw[hx]at f0 c0;rw[hy]at f1 c1;clear hc hx hy hl;replace hq:=Lib.hid hq;go_enter func81,ntmps81;go_wp2_with (first|(go_at_call 85;refine(c3i _ 21 _ (by first|exact f0|exact f1) xM xM).mono ?_;rintro e w'⟨r,rfl,r0,r1,rfl⟩)|fail);exact yhg
 ·have cL:¬2*(q:Int)+1<(ls.length:Int):=xM
  clear hc hl;replace hq:=Lib.hid hq;go_enter func81,ntmps81;go_wp2_with fail;exact yhg
theorem c3k (a0 a1 a2 a3 a4 a5 cw ch i j:Int)(w:Wd)(f0:a0l a0)(f1:a0l a1)(f2:a0l a2)(f3:a0l a3)(f4:a0l a4)(f5:a0l a5)(hw:cw<=3)(hh:ch<=2) :
 Calls prog 82 #[.agg #[.int .i64 a0,.int .i64 a1,.int .i64 a2,.int .i64 a3,.int .i64 a4,.int .i64 a5],.int .i64 cw,.int .i64 ch,.int .i64 i,.int .i64 j] w λe w'=>(∃x,e= .returned (.int .i64 x)/\a0l x)/\Below w.heap.size w w':=by
 by_cases h1:i<0
 ·exact yel
 ·by_cases h2:j<0
  ·exact yel
  ·by_cases h3:cw<=i
   ·exact yel
   ·by_cases h4:ch<=j
    ·exact yel
    ·rcases(show i=0\/i=1\/i=2 from xM)with rfl|rfl|rfl
     all_goals
      rcases(show j=0\/j=1 from xM)with rfl|rfl
      all_goals
       go_enter func82,ntmps82;go_wp2_with fail;go_ret;exact⟨⟨_,rfl,zF⟩,zC⟩
end
section
open Go.RowKit Go.Shelf
variable{ad ax ay bd bx by_:Int}{P Q b cap i k n off:Nat}{v:Vu}{w w':Wd}
theorem run_build_rise (x0 x1 x2 x3 x4 x5 x6:Int)(W:Wd):(Instr.build 217 #[(0,.agg #[.int .i64 x0,.int .i64 x1,.int .i64 x2]),(1,.agg #[.int .i64 x3,.int .i64 x4,.int .i64 x5]),(2,.int .i64 x6)]).run prog W= .ok (.agg (a2w x0 x1 x2 x3 x4 x5 x6)) W:=by kernel_rfl
attribute [-go_sem] Instr.build
attribute [local go_sem] run_build_rise
theorem PQ.best2 {W W':Wd}{B3 B9:Nat}{px py:Int}(h:PQ w B3 px py B9 W){y0 y1 y2 y3 y4 y5 y6:Int}(k:Blk W' B9 (a2w y0 y1 y2 y3 y4 y5 y6) 217)(hg:W.grownBy W' (some B9))(f1:a0l y1)(f2:a0l y2):PQ w B3 px py B9 W' :=
 ⟨⟨h.pp.bel.trans (Below.of_grown hg h.pp.bel.size (λr e=>by cases e;exact h.l9)),h.pp.p.kept hg (λe=>h.d (Option.some.inj e).symm)⟩,⟨y0,y1,y2,y3,y4,y5,y6,k,f1,f2⟩,h.l9,h.d⟩
def c6w (e:Ending):Prop:=∃(x:Int) (b:Bool),e= .returned (.tuple #[.int .i64 x,.bool b])
def FAa (wr:Wd)(P Q b off n cap k:Nat)(ax ay ad bx by_ bd r:Int)(i:Nat)(v:Vu)(w:Wd):Prop :=
 match i with
 |0=>v= .agg #[.int .i64 ax,.int .i64 ay,.int .i64 ad]
 |1=>v= .agg #[.int .i64 bx,.int .i64 by_,.int .i64 bd]
 |2=>v= .slice (some ⟨b,off,none⟩) n cap
 |3=>v= .int .i64 (k:Nat)
 |4=>v= .pointer (some ⟨b,off+k*4,none⟩)
 |5=>v= .pointer (some ⟨b,off+k*4+3,none⟩)
 |6=>v= .int .i64 r
 |7=>v= .agg (a2w ax ay ad bx by_ bd r)
 |8=>∃B,v= .pointer (some ⟨B,0,none⟩)/\wr.heap.size<=B/\Blk w B (a2w 0 0 0 0 0 0 0) 217
 |_=>False
theorem FAa.kept {wr:Wd}{r:Int}(h:FAa wr P Q b off n cap k ax ay ad bx by_ bd r i v w)(hg:Below w.heap.size w w'):FAa wr P Q b off n cap k ax ay ad bx by_ bd r i v w':=by
 unfold FAa at *;exact yiz
def FAb (P Q b off n cap k:Nat)(ax ay ad bx by_ bd l:Int)(i:Nat)(v:Vu)(w:Wd):Prop :=
 match i with
 |0=>v= .agg #[.int .i64 bx,.int .i64 by_,.int .i64 bd]
 |1=>v= .agg #[.int .i64 ax,.int .i64 ay,.int .i64 ad]
 |2=>v= .slice (some ⟨b,off,none⟩) n cap
 |3=>v= .int .i64 (k:Nat)
 |4=>v= .pointer (some ⟨b,off+k*4,none⟩)
 |5=>v= .pointer (some ⟨b,off+k*4+2,none⟩)
 |6=>v= .int .i64 l
 |7=>v= .agg (a2w bx by_ bd ax ay ad l)
 |_=>False
theorem FAb.kept {l:Int}(h:FAb P Q b off n cap k ax ay ad bx by_ bd l i v w)(hg:Below w.heap.size w w'):FAb P Q b off n cap k ax ay ad bx by_ bd l i v w':=by
 unfold FAb at *;split at h
 all_goals first|exact h
theorem b2h (S:BS)(w:Wd)(hT:TW S w)(tv:Vu)(n:Nat)(ai:SL S w 215 tv n)(hn:n<=100)(px py:Int)(Du:a0l px)(Bb:a0l py):
 Calls prog 114 #[tv,.agg #[.int .i64 px,.int .i64 py]] w λe w'=>c6w e/\Below w.heap.size w w':=by
 obtain⟨ta,cap,rfl,xQ⟩:=ai.form;have P7:(n:Int)<=100:=xM;go_enter func114,ntmps114;go_upto_if 19 with(first
  |(go_at_call 139;refine(a4p _ _ _).mono ?_;rintro e W1⟨rfl,ah⟩)
  |(go_at_call 138;refine(a7f _ _ _ _).mono ?_;rintro e W2⟨⟨bo,rfl⟩,aq⟩))
 have gW:PP w w.heap.size px py (w.alloc (.cells #[.int .i64 px,.int .i64 py] 41)):=⟨zC,Blk.new _ _ _⟩;have vS:PP w w.heap.size px py W2:=(gW.up ah).up aq;have Dv:w.heap.size<=w.heap.size:=yR _;obtain⟨B3,dF⟩:=zE w.heap.size;have hp:PP w B3 px py W2:=dF▸vS;have jY:w.heap.size<=B3:=xM;rw[dF];clear gW vS ah aq dF Dv
 cases bo
 ·go_wp2_with fail
  go_ret2;exact⟨⟨_,_,rfl⟩,hp.bel⟩
 ·simp only[Bool.not_true]
  go_wp2_with fail;go_loopw [6] (λkk wr=>∃k:Nat,k<=n/\kk= .int .i64 (k:Nat)/\PP w B3 px py wr) (λkk _=>n-(intOf kk).toNat)
  case atStart=>exact⟨0,Nat.zero_le _,rfl,hp⟩
  case round =>
   clear hp;obtain⟨k,hk,rfl,hp⟩:=hrel;by_cases ab:k<n
   ·have aj:(k:Int)<(n:Int):=xM
    as_aux_lemma =>
     obtain⟨b,off,bk,bq,-,-⟩:=ai.some_ xM;simp only[Value.slice.injEq,true_and]at bq;obtain⟨rfl,rfl⟩:=bq;obtain⟨id,l,r,lv,m,c0,c1,c2,c3,f0,f2,f3,aC,hm⟩:=SL.trace hT ai ab;obtain⟨la,ak,rfl,-⟩:=aC.form;go_wp2_with fail;go_loopw [7] (λii wr=>∃i:Nat,i<=m/\ii= .int .i64 (i:Nat)/\PP w B3 px py wr) (λii _=>m-(intOf ii).toNat)
     case atStart=>exact⟨0,Nat.zero_le _,rfl,hp⟩
     case round =>
      clear hp;obtain⟨i,hi,rfl,hp⟩:=hrel;have o1:=hp.old c1;by_cases gZ:i<m
      ·have s9:(i:Int)<(m:Int):=xM
       obtain⟨pb,po,qc,fP,-,-⟩:=aC.some_ xM;simp only[Value.slice.injEq,true_and]at fP;obtain⟨rfl,rfl⟩:=fP;obtain⟨x,y,d,d0,d1,d2,-,-,-⟩:=SL.spot hT aC gZ;have p0:=hp.old d0;have p1:=hp.old d1;have p2:=hp.old d2;go_upto_if 45 with(first
        |(go_at_call 138;refine(a7f _ _ _ _).mono ?_;rintro e W3⟨⟨bo,rfl⟩,b9⟩))
       have mC:=hp.up b9;clear hp b9 p0 p1 p2 o1
       cases bo
       ·go_wp2_with fail
        go_ret2;exact⟨⟨_,_,rfl⟩,mC.bel⟩
       ·go_wp2_with fail
        go_roundw
        case rel=>exact⟨i+1,xM,by go_num,mC⟩
        case measure=>simp[intOf];omega
      ·obtain rfl:i=m:=xM
       have aT:¬(i:Int)<(i:Int):=xM;go_wp2_with fail;go_roundw
       case rel=>exact⟨k+1,xM,by go_num,hp⟩
       case measure=>simp[intOf];omega
   ·have aT:¬(k:Int)<(n:Int):=xM
    go_wp2_with fail;have iG:PQ w B3 px py wr.heap.size (wr.alloc (.cells (a2w 0 0 0 0 0 0 0) 217)):=by
     have ab:=hp.p.lt;exact⟨hp.up ((zR _ _).alloc (yR _) _),⟨0,0,0,0,0,0,0,Blk.new _ _ _,⟨jM,jM⟩,⟨jM,jM⟩⟩,hp.bel.size,xM⟩
    obtain⟨B9,oU⟩:=zE wr.heap.size;obtain⟨W4,cU⟩:=zE (wr.alloc (.cells (a2w 0 0 0 0 0 0 0) 217));rw[oU,cU]at iG;rw[oU,cU];clear oU cU hp aT ab hk;go_loopw [8,10] (λfv kk wr=>∃(k:Nat) (fb:Bool),k<=n/\kk= .int .i64 (k:Nat)/\fv= .bool fb/\PQ w B3 px py B9 wr) (λ_ kk _=>n-(intOf kk).toNat)
    case atStart=>exact⟨0,false,Nat.zero_le _,rfl,rfl,iG⟩
    case round =>
     clear iG;obtain⟨k,fb,hk,rfl,rfl,hq⟩:=hrel;by_cases ab:k<n
     ·have aj:(k:Int)<(n:Int):=xM
      as_aux_lemma =>
       obtain⟨b,off,bk,bq,-,-⟩:=ai.some_ xM;simp only[Value.slice.injEq,true_and]at bq;obtain⟨rfl,rfl⟩:=bq;obtain⟨id,l,r,lv,m,c0,c1,c2,c3,f0,f2,f3,aC,hm⟩:=SL.trace hT ai ab;obtain⟨la,ak,rfl,-⟩:=aC.form;go_wp2_with fail;go_loopw [8,11] (λfv ii wr=>∃(i:Nat) (fb:Bool),i<=m/\ii= .int .i64 (i:Nat)/\fv= .bool fb/\PQ w B3 px py B9 wr) (λ_ ii _=>m-(intOf ii).toNat)
       case atStart=>exact⟨0,fb,Nat.zero_le _,rfl,rfl,hq⟩
       case round =>
        clear hq;obtain⟨i,fb,hi,rfl,rfl,hq⟩:=hrel;have o1:=hq.pp.old c1;by_cases gZ:i+1<m
        ·have Mc:(i:Int)<(m:Int):=xM
         obtain⟨pb,po,qc,fP,-,-⟩:=aC.some_ xM;simp only[Value.slice.injEq,true_and]at fP;obtain⟨rfl,rfl⟩:=fP;obtain⟨ax,ay,ad,d0,d1,d2,Md,Dw,Dx⟩:=SL.spot hT aC (k:=i) xM;obtain⟨i1,cq⟩:=zE (i+1);have e1:(i:Int)+1=(i1:Int):=xM;have gG:(i1:Int)<(m:Int):=xM;obtain⟨bx,by_,bd,d3,d4,d5,Me,Dy,Dz⟩:=SL.spot hT aC (k:=i1) xM;have p0:=hq.pp.old d0;have p1:=hq.pp.old d1;have p2:=hq.pp.old d2;have p3:=hq.pp.old d3;have p4:=hq.pp.old d4;have p5:=hq.pp.old d5;replace cq:=Lib.hid cq;have bT:Below wr.heap.size wr (wr.alloc (.cells #[.int .i64 ax,.int .i64 ay,.int .i64 ad] 211)):=(zR _ _).alloc (yR _) _;have kP:=Blk.new wr #[.int .i64 ax,.int .i64 ay,.int .i64 ad] 211;have Iy:=(bT.cell (World.block_lt_of_cell? _ _ o1)).trans o1;have Iz:=(bT.cell (World.block_lt_of_cell? _ _ p3)).trans p3;have IA:=(bT.cell (World.block_lt_of_cell? _ _ p4)).trans p4;have IB:=(bT.cell (World.block_lt_of_cell? _ _ p5)).trans p5;have Bc:(wr.alloc (.cells #[.int .i64 ax,.int .i64 ay,.int .i64 ad] 211)).heap.size=wr.heap.size+1:=by simp
         clear p3 p4 p5;go_upto_region 20 with fail;obtain⟨WA,vT⟩:=zE (wr.alloc (.cells #[.int .i64 ax,.int .i64 ay,.int .i64 ad] 211));rw[vT]at bT kP Iy Iz IA IB Bc;rw[vT];obtain⟨P,hP⟩:=zE wr.heap.size;have Bd:wr.heap.size<=P:=xM;rw[hP]at kP Bc;rw[hP];clear vT p0 p1 p2 o1;have vz:Below WA.heap.size WA (WA.alloc (.cells #[.int .i64 bx,.int .i64 by_,.int .i64 bd] 211)):=(zR _ _).alloc (yR _) _;have kQ:=Blk.new WA #[.int .i64 bx,.int .i64 by_,.int .i64 bd] 211;have kP:=kP.alloc (.cells #[.int .i64 bx,.int .i64 by_,.int .i64 bd] 211);go_upto_region 21 with fail;obtain⟨W5,bL⟩:=zE (WA.alloc (.cells #[.int .i64 bx,.int .i64 by_,.int .i64 bd] 211));rw[bL]at vz kQ kP;rw[bL];obtain⟨Q,hQ⟩:=zE (P+1);rw[Bc,hQ]at kQ;rw[hQ];clear bL Iy Iz IA IB;have aI:Below wr.heap.size wr W5:=bT.trans (vz.mono bT.size);have xR:=hq.up aI;have o2:=hq.pp.old c2;have o3:=hq.pp.old c3;have hA5:AtW wr P Q b off k ax ay ad bx by_ bd l r W5:=⟨aI,kP,kQ,(aI.cell (World.block_lt_of_cell? _ _ o2)).trans o2,(aI.cell (World.block_lt_of_cell? _ _ o3)).trans o3⟩;clear bT vz Bc hQ hP o2 o3 hq e1 gG cq d0 d1 d2 d3 d4 d5;obtain⟨a0,a1,a2⟩:=st3 kP;obtain⟨b0,b1,b2⟩:=st3 kQ;obtain⟨q0,q1,-,-⟩:=pt2 xR.pp.p;go_upto_if 83 with(first
          |(go_at_call 140;refine(c5p _ _ _ _ _ _ _ _ _ Md Dw Dx Me Dy Dz Du Bb).mono ?_;rintro e W6⟨⟨bo,rfl⟩,bC⟩))
         have Be:=xR.up bC;have hA6:=hA5.up bC;clear xR hA5 kP kQ a0 a1 a2 b0 b1 b2 q0 q1 bC
         cases bo
         case true =>
          go_wp2_with fail;go_ret2;exact⟨⟨_,_,rfl⟩,Be.pp.bel⟩
         case false =>
          obtain⟨a0,a1,a2⟩:=st3 hA6.p;obtain⟨b0,b1,b2⟩:=st3 hA6.q;obtain⟨q0,q1,-,-⟩:=pt2 Be.pp.p;go_upto_region 24 with(first
           |(go_at_call 141;refine(b4q _ _ _ _ _ _ _ _ _ Dw Dx Dy Dz Bb).mono ?_;rintro e W7⟨⟨x,rfl⟩,jC⟩))
          have vU:=Be.up jC;have hA7:=hA6.up jC;clear Be hA6 a0 a1 a2 b0 b1 b2 q0 q1 jC;have hA8:AtW W7 P Q b off k ax ay ad bx by_ bd l r W7:=⟨zR _ _,hA7.p,hA7.q,hA7.c2,hA7.c3⟩;clear hA7;refine Go.wp_region_rel 9 zM zM (λ_ W=>AtW W7 P Q b off k ax ay ad bx by_ bd l r W) (λw w'=>Below w.heap.size w w') (FAa W7 P Q b off n cap k ax ay ad bx by_ bd r) (λ_ _ _ _ h g=>h.kept g) (hA8.up (zR _ _).drew) ?_ ?_
          ·clear ai aC hT c0 c1 c2 c3 hA8 vU
           intro j o hj ho c bb W hc hM hA hD K hK;match j,hj,ho with
           |0,_,ho =>
            exact ycm
           |1,_,ho =>
            exact ycl
           |2,_,ho =>
            exact yes
           |3,_,ho =>
            exact yea
           |4,_,ho =>
            cases ho;have f90:=a0a (v:= .slice (some ⟨b,off,none⟩) n cap) (a0b hD 2 90 zM rfl rfl);have f91:=a0a (v:= .int .i64 (k:Nat)) (a0b hD 3 91 zM rfl rfl);exact ycq
           |5,_,ho =>
            cases ho;have f92:=a0a (v:= .pointer (some ⟨b,off+k*4,none⟩)) (a0b hD 4 92 zM rfl rfl);exact yjq
           |6,_,ho =>
            cases ho;have f93:=a0a (v:= .pointer (some ⟨b,off+k*4+3,none⟩)) (a0b hD 5 93 zM rfl rfl);have z0:W.cell? ⟨b,off+k*4+3,none⟩=some (.int .i64 r):=hM.c3;go_simp;exact hK (.int .i64 r) W rfl (zR _ _) hM
           |7,_,ho =>
            cases ho;have f88:=a0a (v:= .agg #[.int .i64 ax,.int .i64 ay,.int .i64 ad]) (a0b hD 0 88 zM rfl rfl);have f89:=a0a (v:= .agg #[.int .i64 bx,.int .i64 by_,.int .i64 bd]) (a0b hD 1 89 zM rfl rfl);have f94:=a0a (v:= .int .i64 r) (a0b hD 6 94 zM rfl rfl);go_simp;exact hK (.agg (a2w ax ay ad bx by_ bd r)) W rfl (zR _ _) hM
           |8,_,ho =>
            cases ho;go_simp;exact hK (.pointer (some ⟨W.heap.size,0,none⟩)) _ ⟨_,rfl,hM.bel.size,Blk.new _ _ _⟩ ((zR _ _).alloc (yR _) _) (hM.up ((zR _ _).alloc (yR _) _))
           |i+9,hi,_=>exact absurd hi xM
          ·intro bb W hM hA aa
           have rC:bb.eval (.tmp 95)= .agg (a2w ax ay ad bx by_ bd r):=aa 7 xM _ _ rfl rfl;obtain⟨BL,IC,lI,ID⟩:=(show ∃B,bb.eval (.tmp 15)= .pointer (some ⟨B,0,none⟩)/\W7.heap.size<=B/\Blk W B (a2w 0 0 0 0 0 0 0) 217 from aa 8 xM _ _ rfl rfl);have az:=hA.frame (rT 15 (rF 1 (rT 72 (rF 8 (rT 24 ([])))))) _ rfl zM;clear aa hA;obtain⟨f,hf⟩:=zDt bb;have IE:f 95= .agg (a2w ax ay ad bx by_ bd r):=by rw[<-hf,<-rC];rfl
           have g15:f 15= .pointer (some ⟨BL,0,none⟩):=by rw[<-hf,<-IC];rfl
           rw[hf]at az;clear hf rC IC;subst az;simp only[rT,rF,a1j,IE,g15,a2w,Nat.reduceAdd];clear IE g15;simp only[zU];refine a2j qM _ _ _ qM BL (a2w ax ay ad bx by_ bd r) qM qM _ _ ID qM qM (by simp[a2w,Value.oneCell']) ?_;intro W8 mP IF;have rE:Below W7.heap.size W7 W8:=hM.bel.trans (Below.of_grown IF hM.bel.size (λr e=>by cases e;exact lI));clear hM ID IF;go_upto_region 25 with fail;by_cases hx:x<0
           ·have hA9:=hA8.up rE
            have hA10:AtW W8 P Q b off k ax ay ad bx by_ bd l r W8:=⟨zR _ _,hA9.p,hA9.q,hA9.c2,hA9.c3⟩;clear hA9 hA8;go_upto_region 26 with fail;refine Go.wp_region_rel 8 zM zM (λ_ W=>AtW W8 P Q b off k ax ay ad bx by_ bd l r W) (λw w'=>Below w.heap.size w w') (FAb P Q b off n cap k ax ay ad bx by_ bd l) (λ_ _ _ _ h g=>h.kept g) (hA10.up (zR _ _).drew) ?_ ?_
            ·clear ai aC hT c0 c1 c2 c3 hA10 vU
             intro j o hj ho c bb W hc hM hA hD K hK;match j,hj,ho with
             |0,_,ho =>
              exact ycl
             |1,_,ho =>
              exact ycm
             |2,_,ho =>
              exact yes
             |3,_,ho =>
              exact yea
             |4,_,ho =>
              cases ho;have f100:=a0a (v:= .slice (some ⟨b,off,none⟩) n cap) (a0b hD 2 100 zM rfl rfl);have f101:=a0a (v:= .int .i64 (k:Nat)) (a0b hD 3 101 zM rfl rfl);exact ycq
             |5,_,ho =>
              cases ho;have f102:=a0a (v:= .pointer (some ⟨b,off+k*4,none⟩)) (a0b hD 4 102 zM rfl rfl);exact yjn
             |6,_,ho =>
              cases ho;have f103:=a0a (v:= .pointer (some ⟨b,off+k*4+2,none⟩)) (a0b hD 5 103 zM rfl rfl);have z0:W.cell? ⟨b,off+k*4+2,none⟩=some (.int .i64 l):=hM.c2;go_simp;exact hK (.int .i64 l) W rfl (zR _ _) hM
             |7,_,ho =>
              cases ho;have f98:=a0a (v:= .agg #[.int .i64 bx,.int .i64 by_,.int .i64 bd]) (a0b hD 0 98 zM rfl rfl);have f99:=a0a (v:= .agg #[.int .i64 ax,.int .i64 ay,.int .i64 ad]) (a0b hD 1 99 zM rfl rfl);have f104:=a0a (v:= .int .i64 l) (a0b hD 6 104 zM rfl rfl);go_simp;exact hK (.agg (a2w bx by_ bd ax ay ad l)) W rfl (zR _ _) hM
             |i+8,hi,_=>exact absurd hi xM
            ·intro bb W hM hA aa
             have rC:bb.eval (.tmp 105)= .agg (a2w bx by_ bd ax ay ad l):=aa 7 xM _ _ rfl rfl;have az:=hA.frame (rT 98 (rF 8 (rT 14 ([])))) _ rfl zM;clear aa hA;obtain⟨f,hf⟩:=zDt bb;have xS:f 105= .agg (a2w bx by_ bd ax ay ad l):=by rw[<-hf,<-rC];rfl
             rw[hf]at az;clear hf rC;subst az;simp only[rT,rF,a1j,xS,a2w,Nat.reduceAdd];clear xS;simp only[zU];have mP:=mP.below hM.bel mP.lt;refine a2j qM _ _ _ qM BL (a2w bx by_ bd ax ay ad l) qM qM _ _ mP qM qM (by simp[a2w,Value.oneCell']) ?_;clear mP;intro W9 mP aU;have hq:=vU.up ((rE.trans (hM.bel.mono rE.size)).trans (Below.of_grown aU (rE.trans (hM.bel.mono rE.size)).size (λr e=>by cases e;exact lI)));clear hM vU rE hx aU;go_upto_region 27 with fail;have g1:=Dy;have g2:=Dz;exact yah
           ·have hq:=vU.up rE
            clear vU rE hA8;have g1:=Dw;have g2:=Dx;go_upto_region 27 with fail;clear hx;exact yah
        ·have aT:¬(i:Int)+1<(m:Int):=xM
         go_wp2_with fail;go_roundw
         case rel=>exact⟨k+1,fb,xM,by go_num,rfl,hq⟩
         case measure=>simp[intOf];omega
     ·have aT:¬(k:Int)<(n:Int):=xM
      obtain⟨z0,z1,z2,z3,z4,z5,z6,k9,vw,HV⟩:=hq.q;obtain⟨⟨s0,s1,s2,s3,s4,s5,s6⟩,-⟩:=b9y k9;go_wp2_with fail;go_ret2;exact⟨⟨_,_,rfl⟩,hq.pp.bel⟩
end
end Go.Proofs.YteijfnkidefekaaGreat
