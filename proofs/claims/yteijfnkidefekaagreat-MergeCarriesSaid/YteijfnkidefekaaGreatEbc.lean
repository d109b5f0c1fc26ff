/-
  Parts.
-/
import Derived.Test.YteijfnkidefekaaGreatEat
set_option linter.unusedVariables false
set_option linter.unusedSimpArgs false
set_option linter.unusedSectionVars false
set_option maxHeartbeats 8000000
set_option maxRecDepth 100000
namespace Go.Proofs.YteijfnkidefekaaGreat
open Tryz
section
open Go.RowKit Go.Shelf Go.Lib Go.Sort
theorem b3u {W:Wd}{b b':Nat}{e:Td}{s:Nat}{v:Vu}{n:Nat}{xs:List Value}(h:W.ownsRow b e s v n xs)(hb:b'<=b):W.ownsRow b' e s v n xs:=by
 exact yjr
end
section
open Go.RowKit Go.Shelf
theorem c5y (S:BS)(w:Wd)(hT:TW S w)(ev:Vu)(m:Nat)(cT:SL S w 71 ev m)(hm:m<=100)(px py:Int)(Du:a0l px)(Bb:a0l py) :
 Calls prog 88 #[ev,.agg #[.int .i64 px,.int .i64 py]] w λe w'=>c6w e/\Below w.heap.size w w':=by
 go_enter func88,ntmps88;go_upto_region 1 with fail;have h0:Bx1 w w.heap.size #[.int .i64 px,.int .i64 py] 41 noB (w.alloc (.cells #[.int .i64 px,.int .i64 py] 41)):=⟨Ev.of_below (TW.none _) zC,Blk.new _ _ _,λh=>h,yR _⟩;obtain⟨W1,ao⟩:=zE (w.alloc (.cells #[.int .i64 px,.int .i64 py] 41));obtain⟨B3,dF⟩:=zE w.heap.size;rw[ao]at h0;rw[ao];have h1:Bx1 w B3 #[.int .i64 px,.int .i64 py] 41 noB W1:=by rw[<-dF];exact h0
 rw[dF];clear h0 ao dF;refine Go.wp_region_reln 6 zM zM (λ_ g W=>Bx1 w B3 #[.int .i64 px,.int .i64 py] 41 g W) (λg W g' W'=>Ev noB g W g' W') (FAt B3 ev px py) (λ_ _ _ _ _ _ h g=>h.kept g) noB (h1.evo (Ev.drew h1.ev.ok)) ?_ ?_
 ·intro i o hi ho c bb g W hc hM hA hD K hK
  match i,hi,ho with
  |0,_,ho =>
   cases ho;have f0:=a0a (v:=ev) (hA.at_ (k:=0) zM);go_simp;exact hK (ev) g W rfl (Ev.refl hM.ev.ok) hM
  |1,_,ho =>
   cases ho;have f6:=a0a (v:=ev) (a0e hD 0 6 zM rfl rfl);go_simp;have I0:=Ev.of_below (X:=noB) hT hM.ev.low;refine(b8a S W I0.ok ev m (I0.sl cT) hm).mono ?_;rintro e W'⟨S',v,rfl,⟨n,h1,h2⟩,h3⟩;go_simp;have hj:=Ev.join hM.ev.ok h3;exact hK v _ W' ⟨n,h1.mono (λ_ h=> .inr h) (Shp.refl _ _),h2⟩ hj (hM.evo hj)
  |2,_,ho =>
   cases ho;have f3:=a0a (v:= .pointer (some ⟨B3,0,none⟩)) (hA.at_ (k:=3) zM);have z0:W.cell? ⟨B3,0,none⟩=some (.int .i64 px):=hM.b.cell 0;have z1:W.cell? ⟨B3,1,none⟩=some (.int .i64 py):=hM.b.cell 1;go_simp;exact hK (.agg #[.int .i64 px,.int .i64 py]) g W rfl (Ev.refl hM.ev.ok) hM
  |3,_,ho =>
   cases ho;have f7:=a0e hD 1 7 zM rfl rfl;have f8:=a0a (v:= .agg #[.int .i64 px,.int .i64 py]) (a0e hD 2 8 zM rfl rfl);obtain⟨n,h7,Nh⟩:=f7;obtain⟨tv,e7⟩:=zE (bb.eval (.tmp 7));rw[e7]at h7;have f7:=a0a e7;go_simp;refine(b2h g W hM.ev.ok tv n h7 Nh px py Du Bb).mono ?_;rintro e W'⟨⟨x,b,rfl⟩,hb⟩;go_simp;exact hK (.tuple #[.int .i64 x,.bool b]) g W' ⟨_,_,rfl⟩ (Ev.of_below hM.ev.ok hb) (hM.up hb)
  |4,_,ho =>
   cases ho;have f9:=a0e hD 3 9 zM rfl rfl;obtain⟨x,b,e9⟩:=f9;have f9:=a0a e9;go_simp;exact hK (.int .i64 x) g W ⟨_,rfl⟩ (Ev.refl hM.ev.ok) hM
  |5,_,ho =>
   cases ho;have f9:=a0e hD 3 9 zM rfl rfl;obtain⟨x,b,e9⟩:=f9;have f9:=a0a e9;go_simp;exact hK (.bool b) g W ⟨_,rfl⟩ (Ev.refl hM.ev.ok) hM
  |i+6,hi,_=>exact absurd hi xM
 ·intro bb g W hM hA aa
  obtain⟨x,dM⟩:=(show ∃x,bb.eval (.tmp 10)= .int .i64 x from aa 4 xM _ _ rfl rfl);obtain⟨b,tQ⟩:=(show ∃b,bb.eval (.tmp 11)= .bool b from aa 5 xM _ _ rfl rfl);have az:=hA.frame [T,T,T,T,T,T,F,F,F,F,F,F] _ rfl zM;clear aa hA;obtain⟨f,hf⟩:=zDt bb;have g10:f 10= .int .i64 x:=by rw[<-hf,<-dM];rfl
  have g11:f 11= .bool b:=by rw[<-hf,<-tQ];rfl
  rw[hf]at az;clear hf dM tQ;subst az;simp only[a1j,g10,g11,Nat.reduceAdd];clear g10 g11;simp only[zU];go_wp2_with fail;go_ret2;exact⟨⟨_,_,rfl⟩,hM.ev.low⟩
theorem SL.face {S:BS}{W:Wd}{b off n cap:Nat}(hT:TW S W)(h:SL S W 43 (.slice (some ⟨b,off,none⟩) n cap) n){k:Nat}(hk:k<n):∃id d,W.cell? ⟨b,off+k*5,none⟩=some (.int .i64 id)/\W.cell? ⟨b,off+k*5+4,none⟩=some (.int .i64 d)/\a0l id/\a0l d:=by
 obtain⟨u0,c0,h0⟩:=h.cell hT a1f hk 0 .int rfl;obtain⟨u4,c4,h4⟩:=h.cell hT a1f hk 4 .int rfl;obtain⟨id,rfl,f0⟩:=h0.i rfl;obtain⟨d,rfl,f4⟩:=h4.i rfl;exact⟨id,d,c0,c4,f0,f4⟩
abbrev b1u (ev fv wv pv:Vu):Array Value:= #[ev,fv,wv,pv]
theorem a7n (S:BS)(w:Wd)(hT:TW S w)(ea fa wa pa:Option Addr)(en ec wn wc pn pc fc:Nat)(n:Nat)(jd:SL S w 43 (.slice fa n fc) n)(hn:n<=200)(id:Int) :
 Calls prog 89 #[.agg (b1u (.slice ea en ec) (.slice fa n fc) (.slice wa wn wc) (.slice pa pn pc)),.int .i64 id] w λe w'=>(∃x,e= .returned (.int .i64 x)/\a0l x)/\Below w.heap.size w w':=by
 go_enter func89,ntmps89;go_wp2_with fail;have hb:Below w.heap.size w (w.alloc (.cells (b1u (.slice ea en ec) (.slice fa n fc) (.slice wa wn wc) (.slice pa pn pc)) 32)):=zC;have k1:=(Blk.new w (b1u (.slice ea en ec) (.slice fa n fc) (.slice wa wn wc) (.slice pa pn pc)) 32).cell 1;have bg:=Ev.of_below (X:=noB) hT hb;obtain⟨W1,ao⟩:=zE (w.alloc (.cells (b1u (.slice ea en ec) (.slice fa n fc) (.slice wa wn wc) (.slice pa pn pc)) 32));obtain⟨B,hB⟩:=zE w.heap.size;rw[ao]at hb bg k1;rw[ao];have c1:W1.cell? ⟨B,1,none⟩=some (.slice fa n fc):=by rw[<-hB];exact k1
 rw[hB];clear k1 hB ao;have Fj:=bg.sl jd;go_loopw [5] (λkk wr=>∃k:Nat,k<=n/\kk= .int .i64 (k:Nat)/\wr=W1) (λkk _=>n-(intOf kk).toNat)
 case atStart=>exact⟨0,Nat.zero_le _,rfl,rfl⟩
 case round =>
  obtain⟨k,hk,rfl,rfl⟩:=hrel;by_cases ab:k<n
  ·have aj:(k:Int)<(n:Int):=xM
   obtain⟨b,off,bk,bq,-,-⟩:=jd.some_ xM;simp only[Value.slice.injEq,true_and]at bq;obtain⟨rfl,rfl⟩:=bq;obtain⟨q,d,c0,c4,fq,fd⟩:=SL.face bg.ok Fj ab;by_cases A0:q=id
   ·subst A0
    go_wp2_with fail;go_ret;exact⟨⟨_,rfl,fd⟩,hb⟩
   ·have wY:(q==id)=false:=by simpa using A0
    go_wp2_with fail;go_roundw
    case rel=>exact⟨k+1,xM,by go_num,by first|rfl|trivial⟩
    case measure=>simp[intOf];omega
  ·have aT:¬(k:Int)<(n:Int):=xM
   go_wp2_with fail;go_ret;exact⟨⟨_,rfl,⟨jM,jM⟩⟩,hb⟩
theorem a4v (i j:Int)(w:Wd):Calls prog 87 #[.int .i64 i,.int .i64 j] w λe w'=>(∃x y,e= .returned (.agg #[.int .i64 x,.int .i64 y])/\a0l x/\a0l y)/\Below w.heap.size w w':=by
 go_enter func87,ntmps87;go_wp2_with fail;have hk:=Blk.new w #[.int .i64 (wrap64 (55+wrap64 (80*i))),.int .i64 (wrap64 (65+wrap64 (70*j)))] 41;exact yho
section
variable {n₀ D:Nat}{sv:Vu}{xs:List Int}{S0 S S':BS}{W0 W W':Wd}{L:a5g}{T:SlL}{B B2 B3:Nat}{c c2 c3:Array Value}{t t2 t3:Td}{p:Nat×Array Value×TypeId}
theorem DY.b3 {p2 p3:Nat×Array Value×TypeId}(h:DY n₀ D sv xs S0 W0 S W (p::p2::p3::(B,c,t)::L) T):Blk W B c t:=h.tail.tail.tail.b0
end
theorem b3v {W:Wd}{B:Nat}{a b c d e f g:Vu}{t:Td}(h:Blk W B #[a,b,c,d,e,f,g] t):W.cell? ⟨B,0,none⟩=some a/\W.cell? ⟨B,1,none⟩=some b/\W.cell? ⟨B,2,none⟩=some c/\W.cell? ⟨B,3,none⟩=some d/\W.cell? ⟨B,4,none⟩=some e/\W.cell? ⟨B,5,none⟩=some f/\W.cell? ⟨B,6,none⟩=some g :=
 ⟨h.cell 0,h.cell 1,h.cell 2,h.cell 3,h.cell 4,h.cell 5,h.cell 6⟩
abbrev c7r (id x y:Int)(cs ns:Bw)(wt ds:Int):Array Value:= #[.int .i64 id,.int .i64 x,.int .i64 y,.string cs,.string ns,.int .i64 wt,.int .i64 ds]
theorem DY.pt0 {n₀ D:Nat}{sv:Vu}{xs:List Int}{S0 S:BS}{W0 W:Wd}{L:a5g}{T:SlL}{B:Nat}{X Y X':Int}{t:Td}(h:DY n₀ D sv xs S0 W0 S W ((B,#[.int .i64 X,.int .i64 Y],t)::L) T)(f:a0l X'):∃X7,a0l X7/\DY n₀ D sv xs S0 W0 S (W.setCell ⟨B,0,none⟩ (.int .i64 X')) ((B,#[.int .i64 X7,.int .i64 Y],t)::L) T :=
 ⟨X',f,h.set 0 _ vM⟩
theorem DY.pt1 {n₀ D:Nat}{sv:Vu}{xs:List Int}{S0 S:BS}{W0 W:Wd}{L:a5g}{T:SlL}{B:Nat}{X Y Y':Int}{t:Td}(h:DY n₀ D sv xs S0 W0 S W ((B,#[.int .i64 X,.int .i64 Y],t)::L) T)(f:a0l Y'):∃Y7,a0l Y7/\DY n₀ D sv xs S0 W0 S (W.setCell ⟨B,1,none⟩ (.int .i64 Y')) ((B,#[.int .i64 X,.int .i64 Y7],t)::L) T :=
 ⟨Y',f,h.set 1 _ vM⟩
theorem DY.wd {n₀ D:Nat}{sv:Vu}{xs:List Int}{S0 S:BS}{W0 W W':Wd}{L:a5g}{T:SlL}{B:Nat}{id cF wt d:Int}{lv:Vu}{cs ns:Bw}{st:Bool}{t:Td}(h:DY n₀ D sv xs S0 W0 S W ((B,b6u id lv cF cs ns st wt 0,t)::L) T)(hW:W'=W.setCell ⟨B,7,none⟩ (.int .i64 d))(f:a0l d):∃d7,a0l d7/\DY n₀ D sv xs S0 W0 S W' ((B,b6u id lv cF cs ns st wt d7,t)::L) T :=
 ⟨d,f,h.put hW rfl⟩
def d0a (n₀ D:Nat)(sv:Vu)(xs:List Int)(S:BS)(w:Wd)(m M Br B6 B7:Nat)(cF ax ay bx by_:Int)(ov kk:Vu)(wr:Wd):Prop :=
 ∃(k:Nat) (S':BS) (lv:Vu) (n:Nat),1<=k/\k<=M+1/\kk= .int .i64 (k:Nat)/\n<=k/\DY n₀ D sv xs S w S' wr [(Br,b6u (41+m) lv cF ⟨#[]⟩ ⟨#[]⟩ false 0 0,46),(B6,#[.int .i64 ax,.int .i64 ay],41),(B7,#[.int .i64 bx,.int .i64 by_],41)] [(41,lv,n),(46,ov,m)]
theorem b5q (n₀ D:Nat)(sv:Vu)(xs:List Int)(S:BS)(w:Wd)(h:TD S n₀ D sv xs w)(ov:Vu)(m:Nat)(jF:SL S w 46 ov m)(hm:m<=100)(ax ay bx by_ cF:Int)(fa:a0l ax)(fb:a0l ay)(fc:a0l bx)(fd:a0l by_)(fl:a0l cF) :
 Calls prog 86 #[ov,.agg #[.int .i64 ax,.int .i64 ay],.agg #[.int .i64 bx,.int .i64 by_],.int .i64 cF,.pointer (some ⟨D,0,none⟩)] w λe w'=>∃S' v,e= .returned v/\SL S' w' 46 v (m+1)/\TD S' n₀ D sv xs w'/\Ev (a7d D) S w S' w':=by
 obtain⟨oa,oc,rfl,kV⟩:=jF.form;go_enter func86,ntmps86;go_upto_region 2 with fail;refine a0n (λW1 ao=> ?_);obtain⟨B6,rR⟩:=zE w.heap.size;obtain⟨B7,nY⟩:=zE (w.heap.size+1);obtain⟨BL,Bt⟩:=zE (w.heap.size+1+1);obtain⟨Br,tW⟩:=zE (w.heap.size+1+1+1);obtain⟨S1,hd⟩:∃S1,DY n₀ D sv xs S w S1 W1 [(Br,b6u (41+m) (.slice (some ⟨BL,0,none⟩) 1 1) cF ⟨#[]⟩ ⟨#[]⟩ false 0 0,46),(B6,#[.int .i64 ax,.int .i64 ay],41),(B7,#[.int .i64 bx,.int .i64 by_],41)] [(41,.slice (some ⟨BL,0,none⟩) 1 1,1),(46,.slice oa m oc,m)]:=by
  have h1:=((((h.dw.add jF).box #[.int .i64 ax,.int .i64 ay] 41).box #[.int .i64 bx,.int .i64 by_] 41).swap.cellT (a3x fa fb));have h2:=(h1.add (SL.blk (.inr rfl) (Blk.new _ _ _) (by show 1*2<=2;omega))).box (b6u (41+m) (.slice (some ⟨BL,0,none⟩) 1 1) cF ⟨#[]⟩ ⟨#[]⟩ false 0 0) 46;simp only[World.size_alloc]at h2;rw[tW,Bt,nY,rR]at h2;rw[ao,Bt];exact⟨_,h2⟩
 rw[tW,Bt,nY,rR];clear ao tW Bt nY rR;obtain⟨lv,aC⟩:=zE (Value.slice (some ⟨BL,0,none⟩) 1 1);rw[aC]at hd;clear aC;go_wp2_with (first
  |(go_at_call 43;(with_reducible refine(hd.call 3 xM xM).mono ?_);rintro e W2⟨many,rfl,m0,m1,bM⟩))
 obtain⟨M,rfl⟩:∃M:Nat,many=M:=⟨many.toNat,xM⟩;go_loopw [13] (λkk wr=>d0a n₀ D sv xs S w m M Br B6 B7 cF ax ay bx by_ (.slice oa m oc) kk wr) (λkk _=>M+1-(intOf kk).toNat)
 case atStart=>exact⟨1,S1,lv,1,xM,xM,rfl,xM,bM⟩
 case round =>
  clear hd bM lv;obtain⟨ov,Ba⟩:=zE (Value.slice oa m oc);rw[Ba]at hrel;rw[Ba];obtain⟨k,S',lv,n,CW,Is,rfl,hn,hd⟩:=hrel;by_cases ab:k<=M
  ·have aj:(k:Int)<=(M:Int):=xM
   have nd:¬(M:Int)+1=0:=xM;have LQ:IntKind.i64.wrap ((M:Int)+1)=M+1:=a0p xM xM;have k6:=hd.b1;have k7:=hd.b2;obtain⟨la,lc,rfl,-⟩:=hd.s0.form;obtain⟨lv,aC⟩:=zE (Value.slice la n lc);rw[aC]at hd;go_upto_region 6 with fail;refine Go.wp_region_rel 28 zM zM (λ_ W=>WG7 wr B6 B7 ax ay bx by_ W) (λw w'=>Below w.heap.size w w') (FWy wr B6 B7 k M ax ay bx by_) (λ_ _ _ _ h g=>h.kept g) ⟨(zR _ _).drew,k6.drew,k7.drew⟩ ?_ ?_
   ·clear hd k6 k7 h jF
    intro i o hi ho c bb W hc hM hA hD K hK;match i,hi,ho with
    |0,_,ho =>
     exact ygf
    |1,_,ho =>
     cases ho;have f30:=a0a (v:= .pointer (some ⟨B6,0,none⟩)) (a0b hD 0 30 zM rfl rfl);exact yhx
    |2,_,ho =>
     cases ho;have f7:=a0a (v:= .pointer (some ⟨B7,0,none⟩)) (hA.at_ (k:=7) zM);go_simp;exact hK (.pointer (some ⟨B7,0,none⟩)) W rfl (zR _ _) hM
    |3,_,ho =>
     cases ho;have f32:=a0a (v:= .pointer (some ⟨B7,0,none⟩)) (a0b hD 2 32 zM rfl rfl);have z0:W.cell? ⟨B7,0,none⟩=some (.int .i64 bx):=hM.u.cell 0;go_simp;exact hK (.int .i64 bx) W rfl (zR _ _) hM
    |4,_,ho =>
     exact ygf
    |5,_,ho =>
     cases ho;have f34:=a0a (v:= .pointer (some ⟨B6,0,none⟩)) (a0b hD 4 34 zM rfl rfl);exact yhx
    |6,_,ho =>
     cases ho;have f33:=a0a (v:= .int .i64 bx) (a0b hD 3 33 zM rfl rfl);have f35:=a0a (v:= .int .i64 ax) (a0b hD 5 35 zM rfl rfl);exact yby
    |7,_,ho =>
     exact yji
    |8,_,ho =>
     cases ho;have f36:=a0b hD 6 36 zM rfl rfl;obtain⟨Qs,Ni,Qt⟩:=f36;have f36:=a0a Ni;have f37:=a0a (v:= .int .i64 (k:Nat)) (a0b hD 7 37 zM rfl rfl);exact yby
    |9,_,ho =>
     exact yjj
    |10,_,ho =>
     cases ho;have f39:=a0a (v:= .int .i64 (M:Nat)) (a0b hD 9 39 zM rfl rfl);exact ygd
    |11,_,ho =>
     cases ho;have f38:=a0b hD 8 38 zM rfl rfl;obtain⟨Qu,Nj,Qv⟩:=f38;have f38:=a0a Nj;have f40:=a0a (v:= .int .i64 ((M:Nat)+1)) (a0b hD 10 40 zM rfl rfl);exact yby
    |12,_,ho =>
     cases ho;have f31:=a0a (v:= .int .i64 ax) (a0b hD 1 31 zM rfl rfl);have f41:=a0b hD 11 41 zM rfl rfl;obtain⟨Qw,Nk,Qx⟩:=f41;have f41:=a0a Nk;exact yby
    |13,_,ho =>
     exact ygg
    |14,_,ho =>
     cases ho;have f43:=a0a (v:= .pointer (some ⟨B6,1,none⟩)) (a0b hD 13 43 zM rfl rfl);exact yhy
    |15,_,ho =>
     cases ho;have f7:=a0a (v:= .pointer (some ⟨B7,0,none⟩)) (hA.at_ (k:=7) zM);go_simp;exact hK (.pointer (some ⟨B7,1,none⟩)) W rfl (zR _ _) hM
    |16,_,ho =>
     cases ho;have f45:=a0a (v:= .pointer (some ⟨B7,1,none⟩)) (a0b hD 15 45 zM rfl rfl);have z0:W.cell? ⟨B7,1,none⟩=some (.int .i64 by_):=hM.u.cell 1;go_simp;exact hK (.int .i64 by_) W rfl (zR _ _) hM
    |17,_,ho =>
     exact ygg
    |18,_,ho =>
     cases ho;have f47:=a0a (v:= .pointer (some ⟨B6,1,none⟩)) (a0b hD 17 47 zM rfl rfl);exact yhy
    |19,_,ho =>
     cases ho;have f46:=a0a (v:= .int .i64 by_) (a0b hD 16 46 zM rfl rfl);have f48:=a0a (v:= .int .i64 ay) (a0b hD 18 48 zM rfl rfl);exact yby
    |20,_,ho =>
     exact yji
    |21,_,ho =>
     cases ho;have f49:=a0b hD 19 49 zM rfl rfl;obtain⟨Qy,re,Qz⟩:=f49;have f49:=a0a re;have f50:=a0a (v:= .int .i64 (k:Nat)) (a0b hD 20 50 zM rfl rfl);exact yby
    |22,_,ho =>
     exact yjj
    |23,_,ho =>
     cases ho;have f52:=a0a (v:= .int .i64 (M:Nat)) (a0b hD 22 52 zM rfl rfl);exact ygd
    |24,_,ho =>
     cases ho;have f51:=a0b hD 21 51 zM rfl rfl;obtain⟨QA,Nl,QB⟩:=f51;have f51:=a0a Nl;have f53:=a0a (v:= .int .i64 ((M:Nat)+1)) (a0b hD 23 53 zM rfl rfl);exact yby
    |25,_,ho =>
     cases ho;have f44:=a0a (v:= .int .i64 ay) (a0b hD 14 44 zM rfl rfl);have f54:=a0b hD 24 54 zM rfl rfl;obtain⟨QC,Nn,QD⟩:=f54;have f54:=a0a Nn;exact yby
    |26,_,ho =>
     cases ho;have f42:=a0b hD 12 42 zM rfl rfl;obtain⟨QE,No,Np⟩:=f42;have f42:=a0a No;have f55:=a0b hD 25 55 zM rfl rfl;obtain⟨QF,Nq,Bq⟩:=f55;have f55:=a0a Nq;go_simp;exact hK _ W ⟨_,_,rfl,Np,Bq⟩ (zR _ _) hM
    |27,_,ho =>
     exact yfv
    |i+28,hi,_=>exact absurd hi xM
   ·intro bb W hM hA aa
    obtain⟨X,Y,yO,fX,fY⟩:=(show ∃X Y,bb.eval (.tmp 56)= .agg #[.int .i64 X,.int .i64 Y]/\a0l X/\a0l Y from aa 26 xM _ _ rfl rfl);obtain⟨B14,yP,lI,rB⟩:=(show ∃B,bb.eval (.tmp 14)= .pointer (some ⟨B,0,none⟩)/\wr.heap.size<=B/\Blk W B #[.int .i64 0,.int .i64 0] 41 from aa 27 xM _ _ rfl rfl);have az:=hA.frame (rT 14 (rF 1 (rT 15 (rF 27 (rT 66 ([])))))) _ rfl zM;clear aa hA;obtain⟨f,hf⟩:=zDt bb;have I1:f 56= .agg #[.int .i64 X,.int .i64 Y]:=by rw[<-hf,<-yO];rfl
    have g14:f 14= .pointer (some ⟨B14,0,none⟩):=by rw[<-hf,<-yP];rfl
    rw[hf]at az;clear hf yO yP;subst az;simp only[rT,rF,a1j,I1,g14,Nat.reduceAdd];clear I1 g14;simp only[zU];refine a2j qM _ _ _ qM B14 #[.int .i64 X,.int .i64 Y] qM qM _ _ rB qM qM (by simp[Value.oneCell']) ?_;intro W5 kP Bu;have wS:=hd.fresh (hM.b.trans (Below.of_grown Bu hM.b.size (λr e=>by cases e;exact lI))) lI kP;clear hM rB Bu kP lI hd k6 k7;go_upto_region 8 with(first
     |(go_at_call 43;(with_reducible refine(wS.call 17 xM xM).mono ?_);rintro e W6⟨dr,rfl,r0,r1,jL⟩))
    obtain⟨a0,a1,-,-⟩:=pt2 jL.b2;obtain⟨b0,b1,-,-⟩:=pt2 jL.b3;clear wS;by_cases hy:ay=by_
    ·subst hy
     obtain⟨p0,p1,pO,pP⟩:=pt2 jL.b0;go_upto_region 10 with fail;refine a0n (λW8 jN=> ?_);obtain⟨Y7,C1,eR⟩:=jL.pt1 (a1a (Y+(dr-8)));rw[<-jN]at eR;clear jN p0 p1 pO pP a0 a1 b0 b1 jL;exact yai
    ·have QG:(ay==by_)=false:=by simpa using hy
     go_upto_region 10 with fail;clear a0 a1 b0 b1;have eR:=jL;have C1:=fY;clear jL;obtain⟨Y7,I2⟩:∃y,y=Y:=⟨_,rfl⟩;rw[<-I2]at C1 eR;clear I2;exact yai
  ·have aT:¬(k:Int)<=(M:Int):=xM
   have Fk:n<=4:=xM;clear ab CW Is hn;obtain⟨b0,b1,-,-⟩:=pt2 hd.b2;obtain⟨y0,y1,y2,y3,y4,y5,y6,y7⟩:=a4h hd.b0;go_upto_region 14 with(first
    |(at_builtin;refine a0x hd.tw qM _ _ 44 qM underlying44 a1l qM hd.s0 qM rfl (a3x fc fd) rfl xM ?_;intro v9 S9 w9 aQ cg;obtain⟨a9,c9,rfl,-⟩:=aQ.form;have eR:=hd.evo cg;obtain⟨z0,z1,z2,z3,z4,z5,z6,z7⟩:=a4h eR.b0;have zf:=eR.b0.frozen 1))
   refine a0n (λWA vT=> ?_);have qX:=(eR.tailT.add aQ).put vT (c':=b6u (41+m) (.slice a9 (n+1) c9) cF ⟨#[]⟩ ⟨#[]⟩ false 0 0) rfl;clear hd eR aQ cg vT z0 z1 z2 z3 z4 z5 z6 z7 zf b0 b1 y0 y1 y2 y3 y4 y5 y6 y7;have qU:Strs #[.string ⟨#[112,97,116,104]⟩,.string ⟨#[114,111,97,100]⟩]:=a6i [⟨#[112,97,116,104]⟩,⟨#[114,111,97,100]⟩] jM;go_upto_region 15 with(first
    |(go_at_call 43;(with_reducible refine((qX.box _ _).call 2 xM xM).mono ?_);rintro e Wb⟨q,rfl,q0,q1,hb⟩;obtain⟨q,rfl⟩:=Int.eq_ofNat_of_zero_le q0;obtain⟨s1,wT,bU⟩:=qU.at_ hb.b0 (q:=q) uM;have jv:=hb.tail;obtain⟨z0,z1,z2,z3,z4,z5,z6,z7⟩:=a4h jv.b0;have zf:=jv.b0.frozen 3))
   refine a0n (λWC qV=> ?_);have pM:=jv.put qV (c':=b6u (41+m) (.slice a9 (n+1) c9) cF s1 ⟨#[]⟩ false 0 0) rfl;clear qX jv hb qV z0 z1 z2 z3 z4 z5 z6 z7 zf wT qU;have qW:Strs #[.string ⟨#[]⟩,.string ⟨#[]⟩,.string ⟨#[82,105,110,103]⟩,.string ⟨#[79,108,100,32,87,97,121]⟩]:=a6i [⟨#[]⟩,⟨#[]⟩,⟨#[82,105,110,103]⟩,⟨#[79,108,100,32,87,97,121]⟩] jM;go_upto_region 16 with(first
    |(go_at_call 43;(with_reducible refine((pM.box _ _).call 4 xM xM).mono ?_);rintro e Wd⟨q',rfl,wU,HP,hd⟩;obtain⟨q',rfl⟩:=Int.eq_ofNat_of_zero_le wU;obtain⟨s2,wV,cX⟩:=qW.at_ hd.b0 (q:=q') uM;have jw:=hd.tail;obtain⟨z0,z1,z2,z3,z4,z5,z6,z7⟩:=a4h jw.b0;have zf:=jw.b0.frozen 4))
   refine a0n (λWE gD=> ?_);have lE:=jw.put gD (c':=b6u (41+m) (.slice a9 (n+1) c9) cF s1 s2 false 0 0) rfl;clear pM jw hd gD z0 z1 z2 z3 z4 z5 z6 z7 zf wV qW;go_upto_region 17 with(first
    |(go_at_call 43;(with_reducible refine(lE.call 4 xM xM).mono ?_);rintro e Wf⟨s,rfl,g0,g1,jx⟩;obtain⟨z0,z1,z2,z3,z4,z5,z6,z7⟩:=a4h jx.b0;have zf:=jx.b0.frozen 5))
   refine a0n (λWG qY=> ?_);have lF:=jx.put qY (c':=b6u (41+m) (.slice a9 (n+1) c9) cF s1 s2 (s==0) 0 0) rfl;clear lE jx qY z0 z1 z2 z3 z4 z5 z6 z7 zf;obtain⟨sb,Nr⟩:=zE ((s==0));rw[Nr]at lF;go_upto_region 18 with(first
    |(go_at_call 43;(with_reducible refine(lF.call 60 xM xM).mono ?_);rintro e Wh⟨t,rfl,t0,t1,tX⟩;obtain⟨z0,z1,z2,z3,z4,z5,z6,z7⟩:=a4h tX.b0;have zf:=tX.b0.frozen 6))
   refine a0n (λQH yQ=> ?_);have nZ:=tX.put yQ (c':=b6u (41+m) (.slice a9 (n+1) c9) cF s1 s2 sb (1+t) 0) rfl;clear lF tX yQ z0 z1 z2 z3 z4 z5 z6 z7 zf;go_upto_region 19 with(first
    |(go_at_call 43;(with_reducible refine(nZ.call 3 xM xM).mono ?_);rintro e Wj⟨x,rfl,x0,x1,Bv⟩)
    |(go_at_call 43;(with_reducible refine(Bv.call 2 xM xM).mono ?_);rintro e Wk⟨y,rfl,y0,y1,By⟩;obtain⟨z0,z1,z2,z3,z4,z5,z6,z7⟩:=a4h By.b0;have zf:=By.b0.frozen 7))
   refine a0n (λWL I3=> ?_);obtain⟨d7,f7,wk⟩:=By.wd I3 zF;clear nZ Bv By I3 z0 z1 z2 z3 z4 z5 z6 z7 zf;obtain⟨z0,z1,z2,z3,z4,z5,z6,z7⟩:=a4h wk.b0;have f0:a0l (41+(m:Int)):=⟨xM,xM⟩;have f6:a0l (1+t):=⟨xM,xM⟩;go_wp2_with (first
    |(at_builtin;refine a0x wk.tw qM _ _ 29 qM underlying29 a3l qM wk.s1 qM rfl (b9z f0 fl bU cX f6 f7 wk.s0 xM) rfl xM ?_;intro v9 S9 w9 aQ cg))
   go_ret;exact⟨S9,v9,rfl,aQ,(wk.evo cg).td,(wk.evo cg).st.ev⟩
def WsR (n₀ D:Nat)(sv:Vu)(xs:List Int)(S:BS)(w:Wd)(a top g:Nat)(ov kk:Vu)(wr:Wd):Prop :=
 ∃(i:Nat) (S':BS) (n:Nat),i<=top/\kk= .int .i64 (i:Nat)/\n<=a+g*i/\DY n₀ D sv xs S w S' wr [] [(46,ov,n)]
theorem b8o (n₀:Nat)(S:BS)(w:Wd)(hT:TW S w)(dv:∀b,S b->n₀<=b)(bX:n₀<=w.heap.size)(sv:Vu)(xs:List Int)(hI:Intz n₀ w sv xs) :
 Calls prog 44 #[sv] w λe w'=>∃S' v,e= .returned v/\(∃n,SL S' w' 46 v n/\n<=20)/\Ev noB S w S' w':=by
 have pC:=TD.new hT dv bX hI;obtain⟨sa,sc,rfl⟩:∃a c,sv= .slice a xs.length c:=by
  obtain⟨⟨a,c,e,-⟩,-⟩:=hI;exact⟨a,c,e⟩
 have sH:Ev noB S w S (w.alloc (.cells #[.slice sa xs.length sc,.int .i64 0] 112)):=Ev.of_below hT zC;have vC:w.heap.size<=w.heap.size:=yR _;have CR:a0l 0:=⟨jM,jM⟩;have vw:a0l 1:=⟨jM,jM⟩;have CS:a0l (-1):=⟨jM,jM⟩;go_enter func44,ntmps44;go_wp2_with fail;refine a0n (λW1 ao=> ?_);rw[<-ao]at pC sH;obtain⟨D,hD⟩:=zE w.heap.size;have yT:w.heap.size<=D:=xM;rw[hD]at pC;rw[hD];obtain⟨sv,bj⟩:=zE (Value.slice sa xs.length sc);rw[bj]at pC;rw[bj];clear ao hD vC bj hI;have vC:=yT;clear yT;have eN:=pC.dw.add (SL.nil S W1 46);go_loopw [4,5] (λov kk wr=>WsR n₀ D sv xs S W1 0 2 3 ov kk wr) (λ_ kk _=>2-(intOf kk).toNat)
 case atStart=>exact⟨0,S,0,xM,rfl,xM,eN⟩
 case round =>
  clear eN;obtain⟨j,S1,n1,hj,rfl,ck,hd⟩:=hrel;by_cases ab:j<2
  ·have aj:(j:Int)<2:=xM
   go_wp2_with fail;go_loopw [4,6] (λov kk wr=>WsR n₀ D sv xs S W1 (3*j) 3 1 ov kk wr) (λ_ kk _=>3-(intOf kk).toNat)
   case atStart=>exact⟨0,S1,n1,xM,rfl,xM,hd⟩
   case round =>
    clear hd;obtain⟨i,S2,n,hi,rfl,hn,hd⟩:=hrel;by_cases Fl:i<3
    ·have yU:(i:Int)<3:=xM
     go_upto_if 21 with(first
      |(go_at_call 43;(with_reducible refine(hd.call 2 xM xM).mono ?_);rintro e W2⟨q,rfl,q0,q1,bM⟩))
     exact yat
    ·have aT:¬(i:Int)<3:=xM
     go_wp2_with fail;go_roundw
     case rel=>exact⟨j+1,S2,n,xM,by go_num,xM,hd⟩
     case measure=>simp[intOf];omega
  ·have aT:¬(j:Int)<2:=xM
   go_wp2_with fail;go_loopw [4,7] (λov kk wr=>WsR n₀ D sv xs S W1 6 4 1 ov kk wr) (λ_ kk _=>4-(intOf kk).toNat)
   case atStart=>exact⟨0,S1,n1,xM,rfl,xM,hd⟩
   case round =>
    clear hd;obtain⟨i,S2,n,hi,rfl,hn,hd⟩:=hrel;obtain⟨oa,oc,rfl,-⟩:=hd.s0.form;by_cases Fl:i<4
    ·have yU:(i:Int)<4:=xM
     by_cases hlen:n<5
     ·have yV:(n:Int)<5:=xM
      go_upto_if 43 with(first
       |(go_at_call 43;(with_reducible refine(hd.call 2 xM xM).mono ?_);rintro e W2⟨q,rfl,q0,q1,bM⟩))
      exact yat
     ·have yV:¬(n:Int)<5:=xM
      exact yaf
    ·have Ns:¬(i:Int)<4:=xM
     exact yaf
section
variable {n₀ D:Nat}{sv:Vu}{xs:List Int}{S0 S S':BS}{W0 W W':Wd}{L:a5g}{T:SlL}{B i:Nat}{c c2 c':Array Value}{t t2:Td}{p:Nat×Array Value×TypeId}
theorem OW.draw (h:OW S0 W0 S W L T)(dv:∀b,S b->n₀<=b)(hn:n₀<=W0.heap.size)(hI:Intz n₀ W sv xs):DY n₀ W.heap.size sv xs S0 W0 S (W.alloc (.cells #[sv,.int .i64 0] 112)) L T:=by
 have hb:Below W.heap.size W (W.alloc (.cells #[sv,.int .i64 0] 112)):=(zR _ _).alloc (yR _) _;have h1:=h.up hb;refine⟨⟨TD.new h.tw dv (Nat.le_trans hn h.ev.size) hI,h1.ev.any,hn⟩,λp hp=> ?_,h.ne,h1.sl⟩;obtain⟨k1,k2,k3⟩:=h1.bx p hp;exact⟨k1,k2,λe=>by have:=(h.bx p hp).1.lt;omega,k3⟩
theorem DY.ow (h:DY n₀ D sv xs S0 W0 S W L T)(hT:TW S0 W0)(hD:W0.heap.size<=D):OW S0 W0 S W L T :=
 ⟨h.fin (Ev.refl hT) hD,λp hp=>by obtain⟨k1,k2,-,k4⟩:=h.bx p hp;exact⟨k1,k2,k4⟩,h.ne,h.sl⟩
end
theorem c7s {S:BS}{W:Wd}{x:Int}(hx:a0l x):TB S W 3 #[.int .i64 x]:=b4p rfl rfl λi u ct h1 h2=>by
 match i,h1,h2 with
 |0,h1,h2=>cases h1;cases h2;exact CT.ok_int hx
 |i+1,h1,_=>simp at h1
theorem a9f {S:BS}{w:Wd}(hT:TW S w){ops:Array Oper}{o:Oper}{a:Act}{K:Act->World->Prop}{Q:Exit->Act->World->Prop}{E:Prop}(bP:o.guard=none)(sO xO:Operand)(t:Td)(ho:o.op= .call { callee:= .builtin .append,args:= #[sO,xO],argTypes:= #[t,t] })
 {e:Td} {s:Nat} (ht:prog.underlying t=some (.slice e)) (he:ET e s) {sv xv:Vu} {n m:Nat} (bj:a.eval sO=sv) (hv:SL S w e sv n) (aO:a.eval xO=xv) (hx:SL S w e xv m) (hl:n+m<=1000000)
 (h:∀v' S' w',SL S' w' e v' (n+m)->Ev noB S w S' w'->K (a.put o.dst v') w'):if Region.wanted o (yielded ops a.tmps)=true then Oper.wp prog o a w K Q else E:=by
 rw[if_pos (by simp[Region.wanted,bP])];exact a7c (X:=noB) hT sO xO t ho ht he bj hv aO hx hl h
theorem b1h {S:BS}{w:Wd}{t e:Td}{s:Nat}(ht:prog.underlying t=some (.slice e))(he:ET e s){v:Vu}{n k:Nat}(hv:SL S w e v n)(hk:k<=n) :
 ∃v',(Instr.sliceAt t v (some (.int .i64 (k:Nat))) none none).run prog w= .ok v' w/\SL S w e v' (n-k):=by
 obtain⟨i,z,hi,hz,aM,-⟩:=he.info;have qZ:=hv;obtain⟨a,cap,rfl,hn,h⟩:=hv;have iE:(0:Int)<=(k:Int)/\(k:Int)<=(n:Int):=xM;have cW:¬n<k:=xM;have hr:(Instr.sliceAt t (.slice a n cap) (some (.int .i64 (k:Nat))) none none).run prog w= .ok (.slice (if cap=k then a else a.map (·.add (k*s))) (n-k) (cap-k)) w:=by
  exact yhq
 refine⟨_,hr,?_⟩;rcases h with⟨rfl,rfl⟩|⟨b,o,c,rfl,hb,hc,hl⟩
 ·have:k=0:=xM
  subst this;have:n=0:=xM;subst this;exact qZ
 ·by_cases fS:cap=k
  ·rw[if_pos fS]
   exact qZ.drop he.size hk (.inr ⟨fS.symm,rfl⟩)
  ·rw[if_neg fS]
   have hx:(some (⟨b,o*a5e e,none⟩:Addr)).map (·.add (k*s))=some ⟨b,o*a5e e+k*s,none⟩:=by simp[Addr.add]
   rw[hx];exact qZ.drop he.size hk (.inl rfl)
theorem a9g {S:BS}{w:Wd}{t e:Td}{s:Nat}(ht:prog.underlying t=some (.slice e))(he:ET e s){v:Vu}{n k:Nat}(hv:SL S w e v n)(hk:k<=n) :
 ∃v',(Instr.sliceAt t v none (some (.int .i64 (k:Nat))) none).run prog w= .ok v' w/\SL S w e v' k:=by
 obtain⟨i,z,hi,hz,aM,-⟩:=he.info;have qZ:=hv;obtain⟨a,cap,rfl,hn,h⟩:=hv;have iE:(0:Int)<=(k:Int)/\(k:Int)<=(cap:Int):=xM;have cW:¬cap<k:=xM;have hr:(Instr.sliceAt t (.slice a n cap) none (some (.int .i64 (k:Nat))) none).run prog w= .ok (.slice (if cap=0 then a else a.map (·.add (0*s))) (k-0) (cap-0)) w:=by
  exact yhq
 refine⟨_,hr,?_⟩;have hx:(if cap=0 then a else a.map (·.add (0*s)))=a:=by
  split
  ·rfl
  ·cases a with
   |none=>rfl
   |some ad=>simp[Addr.add]
 rw[hx,Nat.sub_zero,Nat.sub_zero];exact qZ.take hk
theorem a7j {S:BS}{w:Wd}{o:Oper}{a:Act}{K:Act->World->Prop}{Q:Exit->Act->World->Prop}(t:Td)(xO lO:Operand)(ho:o.op= .slice t xO (some lO) none none){e:Td}{s:Nat}(ht:prog.underlying t=some (.slice e))(he:ET e s){v:Vu}{n k:Nat}
 (hx:a.eval xO=v) (o9:a.eval lO= .int .i64 (k:Nat)) (hv:SL S w e v n) (hk:k<=n) (h:∀v',SL S w e v' (n-k)->K (a.put o.dst v') w):Oper.wp prog o a w K Q:=by
 obtain⟨v',hr,h2⟩:=b1h ht he hv hk;unfold Oper.wp execOp;simp only[ho,Option.map_some,Option.map_none,hx,o9,Sem.run_bind,hr];simp only[Result.andThen_ok,Sem.run_pure];exact h v' h2
theorem b1i {S:BS}{w:Wd}{o:Oper}{a:Act}{K:Act->World->Prop}{Q:Exit->Act->World->Prop}(t:Td)(xO hO:Operand)(ho:o.op= .slice t xO none (some hO) none){e:Td}{s:Nat}(ht:prog.underlying t=some (.slice e))(he:ET e s){v:Vu}{n k:Nat}
 (hx:a.eval xO=v) (Fm:a.eval hO= .int .i64 (k:Nat)) (hv:SL S w e v n) (hk:k<=n) (h:∀v',SL S w e v' k->K (a.put o.dst v') w):Oper.wp prog o a w K Q:=by
 obtain⟨v',hr,h2⟩:=a9g ht he hv hk;unfold Oper.wp execOp;simp only[ho,Option.map_some,Option.map_none,hx,Fm,Sem.run_bind,hr];simp only[Result.andThen_ok,Sem.run_pure];exact h v' h2
theorem a3q {S:BS}{w:Wd}{ops:Array Oper}{rest:List Oper}{o:Oper}{a:Act}{Q:Exit->Act->World->Prop}(bP:o.guard=none)(t:Td)(xO hO:Operand)(ho:o.op= .slice t xO none (some hO) none){e:Td}{s:Nat}(ht:prog.underlying t=some (.slice e))(he:ET e s){v:Vu}{n k:Nat}
 (hx:a.eval xO=v) (Fm:a.eval hO= .int .i64 (k:Nat)) (hv:SL S w e v n) (hk:k<=n) (h:∀v',SL S w e v' k->wpList prog ops Q rest (a.put o.dst v') w):wpList prog ops Q (o::rest) a w :=
 wpList_plain bP λ_ hK=>b1i t xO hO ho ht he hx Fm hv hk λv' h2=>hK _ _ (h v' h2)
theorem b1j (S:BS)(w:Wd)(hT:TW S w)(lv:Vu)(n:Nat)(cf:SL S w 3 lv n)(hn:n<=1000)(x:Int)(fx:a0l x) :
 Calls prog 113 #[lv,.int .i64 x] w λe w'=>∃S' v,e= .returned v/\(∃n',SL S' w' 3 v n'/\n'<=n+1)/\Ev noB S w S' w':=by
 obtain⟨a,cap,aC,sI⟩:=cf.form;by_cases bX:n=0
 ·subst bX
  subst aC;go_enter func113,ntmps113;go_wp2_with fail;refine wp_loop_rounds 1 ?_;rw[rounds_succ];obtain⟨wr,Fo⟩:∃W,W=w:=⟨_,rfl⟩;have lC:Ev noB S w S wr:=by rw[Fo];exact Ev.refl hT
  rw[<-Fo];clear Fo;go_upto_region 6 with fail;have hA1:=Ev.alloc (X:=noB) lC.ok (b6s (S:=S) (W:=wr) (e:=3));have wR:SL (λb=>S b\/b=wr.heap.size) (wr.alloc (.cells #[] 3)) 3 (.slice (some ⟨wr.heap.size,0,none⟩) 0 0) 0:=SL.blk (.inr rfl) (Blk.new _ _ _) vM;have mM:=(lC.trans hA1).sl cf;go_upto_region 7 with(first
   |(refine a3q qM 100 _ _ qM underlying100 a4y qM qM mM (yR 0) ?_;intro Lm h38)
   |(at_builtin;refine a1h (X:=noB) hA1.ok qM _ _ 100 qM underlying100 a4y qM wR qM h38 xM ?_;intro v6 S6 W6 gR iA))
  have sB:=(lC.trans hA1).trans iA;have sC:=sB.sl cf;rw[Nat.zero_add]at gR;refine Go.wp_region_reln 7 zM zM (λ_ g W=>Ev noB S6 W6 g W) (λg W g' W'=>Ev noB g W g' W') (FPu (Value.slice a 0 cap) v6 0 0 x) (λ_ _ _ _ _ _ h g=>h.kept g) S6 (Ev.drew sB.ok) ?_ ?_
  ·clear mM wR hA1 iA lC
   intro i o hi ho c bb g W hc hM hA hD K hK;match i,hi,ho with
   |0,_,ho =>
    exact yhe
   |1,_,ho =>
    exact ygj
   |2,_,ho =>
    exact ydj
   |3,_,ho =>
    exact ydv
   |4,_,ho =>
    cases ho;have f0:bb.tmps[0]?.getD undef=(Value.slice a 0 cap):=a0a (v:=(Value.slice a 0 cap)) (hA.at_ (k:=0) zM);go_simp;exact hK (Value.slice a 0 cap) g W rfl (Ev.refl hM.ok) hM
   |5,_,ho =>
    cases ho;have f5:bb.tmps[5]?.getD undef= .int .i64 ((0:Nat):Int):=a0a (v:= .int .i64 ((0:Nat):Int)) (hA.at_ (k:=5) zM);go_simp;exact hK (.int .i64 ((0:Nat):Int)) g W rfl (Ev.refl hM.ok) hM
   |6,_,ho =>
    cases ho;have f44:bb.eval (.tmp 44)=(Value.slice a 0 cap):=a0e hD 4 44 zM rfl rfl;have f45:bb.eval (.tmp 45)= .int .i64 ((0:Nat):Int):=a0e hD 5 45 zM rfl rfl;rw[if_pos (by simp[Region.wanted])];exact a7j 100 _ _ rfl underlying100 a4y f44 f45 (hM.sl sC) (yR 0) (λv' h1=>hK v' g W h1 (Ev.refl hM.ok) hM)
   |i+7,hi,_=>exact absurd hi xM
  ·intro bb g W hM hA aa
   have h3:SL g W 3 (bb.eval (.tmp 43)) (0+1):=aa 3 xM _ _ rfl rfl;have h6:SL g W 3 (bb.eval (.tmp 46)) (0-0):=aa 6 xM _ _ rfl rfl;obtain⟨va,iY⟩:=zE (bb.eval (.tmp 43));obtain⟨vb,pL⟩:=zE (bb.eval (.tmp 46));rw[iY]at h3;rw[pL]at h6;have az:=hA.frame (rT 40 (rF 7 (rT 1 ([])))) _ rfl zM;clear aa hA;obtain⟨f,hf⟩:=zDt bb;have vt:f 43=va:=by rw[<-hf,<-iY];rfl
   have qT:f 46=vb:=by rw[<-hf,<-pL];rfl
   rw[hf]at az;clear hf iY pL;subst az;simp only[rT,rF,a1j,vt,qT,Nat.reduceAdd];clear vt qT;simp only[zU];go_wp2_with (first
    |(at_builtin;refine a1h (X:=noB) hM.ok qM _ _ 100 qM underlying100 a4y qM h3 qM h6 xM ?_;intro v9 S9 w9 aQ cg))
   go_ret;exact⟨S9,_,rfl,⟨0+1+(0-0),aQ,xM⟩,(sB.trans hM).trans cg⟩
 ·obtain⟨b,off,bk,bq,-,-⟩:=cf.some_ xM
  rw[aC]at bq;simp only[Value.slice.injEq,true_and]at bq;obtain⟨rfl,rfl⟩:=bq;subst aC;go_enter func113,ntmps113;go_wp2_with fail;go_loopw [5] (λkk wr=>∃t:Nat,t<=n/\kk= .int .i64 (t:Nat)/\Below w.heap.size w wr) (λkk _=>(intOf kk).toNat)
  case atStart=>exact⟨n,yR _,rfl,zR _ _⟩
  case round =>
   obtain⟨t,ht,rfl,hB⟩:=hrel;have lC:=Ev.of_below (X:=noB) hT hB;have sM:=lC.sl cf;have yW:t=0\/(0<t/\∃y,wr.cell? ⟨b,off+(t-1),none⟩=some (.int .i64 y)):=by
    by_cases h:t=0
    ·exact .inl h
    ·obtain⟨y,c0,fy⟩:=SL.int lC.ok sM (k:=t-1) xM
     exact .inr ⟨xM,y,c0⟩
   have eB:t<n->∃z,wr.cell? ⟨b,off+t,none⟩=some (.int .i64 z):=λh=>by
    obtain⟨y,c0,fy⟩:=SL.int lC.ok sM h;exact⟨y,c0⟩
   rcases yW with h0|⟨h0,y,cy⟩
   ·have jW:¬(0:Int)<(t:Int):=xM
    clear h0;by_cases Fp:t<n
    ·obtain⟨z,cz⟩:=eB Fp
     have yX:(t:Int)<(n:Int):=xM;by_cases rp:z=x
     ·exact yit
     ·have vB:(z==x)=false:=by simpa using rp
      go_upto_region 6 with fail;clear eB cz;exact yaa
    ·exfalso
     omega
   ·have jW:(0:Int)<(t:Int):=xM
    have QI:(t:Int)-1<(n:Int):=xM;have QJ:0<=(t:Int)-1:=xM;by_cases H9:x<=y
    ·go_wp2_with fail
     go_roundw
     case rel=>exact⟨t-1,xM,by first|rfl|(congr 1;omega),hB⟩
     case measure=>simp[intOf];try omega
    ·by_cases Fp:t<n
     ·obtain⟨z,cz⟩:=eB Fp
      have yX:(t:Int)<(n:Int):=xM;by_cases rp:z=x
      ·exact yit
      ·have vB:(z==x)=false:=by simpa using rp
       go_upto_region 6 with fail;clear eB cz cy;exact yaa
     ·have yX:¬(t:Int)<(n:Int):=xM
      go_upto_region 6 with fail;clear eB cy;exact yaa
theorem c1u (S:BS)(w:Wd)(hT:TW S w)(ev:Vu)(m:Nat)(cT:SL S w 71 ev m)(hm:m<=100) :
 Calls prog 84 #[ev] w λe w'=>∃S' v,e= .returned v/\(∃n',SL S' w' 43 v n'/\n'<=200)/\Ev noB S w S' w':=by
 obtain⟨ea,lK,rfl,sX⟩:=cT.form;go_enter func84,ntmps84;go_wp2_with fail;go_loopw [3,4] (λv kk wr=>∃(k n:Nat) (S':BS),k<=m/\kk= .int .i64 (k:Nat)/\n<=2*k/\SL S' wr 3 v n/\Ev noB S w S' wr) (λ_ kk _=>m-(intOf kk).toNat)
 case atStart=>exact⟨0,0,S,Nat.zero_le _,rfl,xM,SL.nil _ _ _,Ev.refl hT⟩
 case round =>
  obtain⟨k,n,S1,hk,rfl,hn,bj,bg⟩:=hrel;by_cases ab:k<m
  ·have aj:(k:Int)<(m:Int):=xM
   obtain⟨b,off,bk,bq,-,-⟩:=cT.some_ xM;simp only[Value.slice.injEq,true_and]at bq;obtain⟨rfl,rfl⟩:=bq;obtain⟨id,l,r,lv,q,c0,c1,c2,c3,f0,f1,f2,aC,hq⟩:=SL.edge bg.ok (bg.sl cT) ab;have dC:=aC;clear aC c0 c1;by_cases rS:l=0
   ·have Nt:(l != 0)=false:=by simp[rS]
    go_upto_region 7 with fail;clear c2;by_cases iQ:r=0
    ·have lS:(r != 0)=false:=by simp[iQ]
     go_wp2_with fail;go_roundw
     case rel=>exact⟨k+1,n,S1,xM,by go_num,xM,bj,bg⟩
     case measure=>simp[intOf];omega
    ·have lS:(r != 0)=true:=by simp[iQ]
     go_wp2_with (first
      |(go_at_call 113;refine(b1j S1 _ bg.ok _ n bj xM r f2).mono ?_;rintro e W2⟨S2,v2,rfl,⟨n2,cX,dp⟩,gw⟩))
     go_roundw
     case rel=>exact⟨k+1,n2,S2,xM,by go_num,xM,cX,bg.trans gw⟩
     case measure=>simp[intOf];omega
   ·have Nt:(l != 0)=true:=by simp[rS]
    go_upto_region 7 with(first
     |(go_at_call 113;refine(b1j S1 _ bg.ok _ n bj xM l f1).mono ?_;rintro e W2⟨S2,v2,rfl,⟨n2,cX,dp⟩,gw⟩))
    have eX:=bg.trans gw;clear c2 c3 f2;obtain⟨Eb,l',r',IQ,q',-,-,-,c3,-,-,f2,-,-⟩:=SL.edge eX.ok (eX.sl cT) ab;by_cases iQ:r'=0
    ·have lS:(r' != 0)=false:=by simp[iQ]
     go_wp2_with fail;go_roundw
     case rel=>exact⟨k+1,n2,S2,xM,by go_num,xM,cX,eX⟩
     case measure=>simp[intOf];omega
    ·have lS:(r' != 0)=true:=by simp[iQ]
     go_wp2_with (first
      |(go_at_call 113;refine(b1j S2 _ eX.ok _ n2 cX xM r' f2).mono ?_;rintro e W3⟨S3,v3,rfl,⟨n3,mA,QK⟩,ph⟩))
     go_roundw
     case rel=>exact⟨k+1,n3,S3,xM,by go_num,xM,mA,eX.trans ph⟩
     case measure=>simp[intOf];omega
  ·obtain rfl:k=m:=xM
   have aT:¬(k:Int)<(k:Int):=xM;obtain⟨ia,Fq,rfl,QL⟩:=bj.form;go_wp2_with fail;go_loopw [5,6] (λv kk wx=>∃(t:Nat) (S':BS),t<=n/\kk= .int .i64 (t:Nat)/\SL S' wx 43 v t/\Ev noB S w S' wx/\SL S' wx 3 (.slice ia n Fq) n) (λ_ kk _=>n-(intOf kk).toNat)
   case atStart=>exact⟨0,S1,Nat.zero_le _,rfl,SL.nil _ _ _,bg,bj⟩
   case round =>
    clear bj bg;obtain⟨t,S2,ht,rfl,jd,bg,bj⟩:=hrel;by_cases eL:t<n
    ·have aj:(t:Int)<(n:Int):=xM
     obtain⟨b2,tY,mN,fP,-,-⟩:=bj.some_ xM;simp only[Value.slice.injEq,true_and]at fP;obtain⟨rfl,rfl⟩:=fP;obtain⟨y,cy,fy⟩:=SL.int bg.ok bj eL;go_wp2_with (first
      |(at_builtin;refine a0x bg.ok qM _ _ 28 qM underlying28 a1f qM jd qM rfl (b7e fy) rfl xM ?_;intro v9 S9 w9 aQ cg))
     go_roundw
     case rel=>exact⟨t+1,S9,xM,by go_num,aQ,bg.trans cg,cg.sl bj⟩
     case measure=>simp[intOf];omega
    ·obtain rfl:t=n:=xM
     have tZ:¬(t:Int)<(t:Int):=xM;go_wp2_with fail;go_ret;exact⟨S2,_,rfl,⟨t,jd,xM⟩,bg⟩
section
variable {S0 S S':BS}{W0 W W':Wd}{BE BR BO:Nat}{cE cR cO:Array Value}{t:Td}
end
theorem b8p (n₀ D:Nat)(sv:Vu)(xs:List Int)(S:BS)(w:Wd)(h:TD S n₀ D sv xs w)(ev:Vu)(m:Nat)(cT:SL S w 71 ev m)(hm:m<=99)(x y a:Int)(fx:a0l x)(fy:a0l y)(fa:a0l a) :
 Calls prog 83 #[ev,.agg #[.int .i64 x,.int .i64 y],.int .i64 a,.pointer (some ⟨D,0,none⟩)] w λe w'=>∃S' v,e= .returned v/\(∃m',SL S' w' 71 v m'/\m'<=m+1)/\TD S' n₀ D sv xs w'/\Ev (a7d D) S w S' w':=by
 have ab:=λb hb=>h.tw.lt (b:=b) hb
 have mz:=h.lt;obtain⟨ea,lK,rfl,sX⟩:=cT.form;go_enter func83,ntmps83;go_upto_region 1 with fail;refine a0n (λW1 ao=> ?_);have bU:ST n₀ D sv xs S w S W1:=by
  rw[ao];exact h.st.alloc _
 have k1:Blk W1 w.heap.size #[.int .i64 x,.int .i64 y] 41:=by
  rw[ao];exact Blk.new _ _ _
 have ni:SL S W1 71 (.slice ea m lK) m:=bU.ev.sl cT;clear ao;have n1:¬S w.heap.size:=λhb=>Nat.lt_irrefl _ (ab _ hb)
 have d1:w.heap.size≠D:=xM;obtain⟨B,hB⟩:=zE w.heap.size;rw[hB]at k1 n1 d1;rw[hB];clear hB ab mz;go_upto_region 3 with(first
  |(go_at_call 43;refine(bU.call 8 xM xM).mono ?_;rintro e W2⟨q,rfl,q0,q1,cX,fM,gw⟩;have k2:=k1.kept fM (λe=>d1 (Option.some.inj e).symm);have lL:=gw.sl ni;obtain⟨z0,z1,-,-⟩:=pt2 k2))
 refine a0n (λW3 eP=> ?_);obtain⟨S3,mA,sU,nj,n3⟩:∃S3,ST n₀ D sv xs S w S3 W3/\SL S3 W3 41 (.slice (some ⟨W2.heap.size,0,none⟩) 4 4) 4/\SL S3 W3 71 (.slice ea m lK) m/\¬S3 B:=by
  rw[eP];refine⟨λb=>S b\/b=W2.heap.size,cX.allocT (b7d (λu hu=> ?_)),SL.blk (.inr rfl) (Blk.new _ _ _) (by show 4*2<=8;omega),lL.mono (λ_ h=> .inl h) (λb c e hb hc=>⟨c,hc.alloc _,rfl⟩),λh=> ?_⟩
  ·simp only[List.mem_cons,List.not_mem_nil,or_false]at hu
   rcases hu with rfl|rfl|rfl|rfl|rfl|rfl|rfl|rfl <;> exact⟨_,rfl,zF⟩
  ·rcases h with h|h
   ·exact n1 h
   ·have:=k2.lt;omega
 have k3:Blk W3 B #[.int .i64 x,.int .i64 y] 41:=by
  rw[eP];exact k2.alloc _
 obtain⟨lv,aC⟩:=zE (Value.slice (some ⟨W2.heap.size,0,none⟩) 4 4);rw[aC]at sU;rw[aC];clear eP aC cX lL k2 z0 z1 bU ni k1 fM gw;go_upto_if 53 with(first
  |(go_at_call 43;refine(mA.call 2 xM xM).mono ?_;rintro e W4⟨q2,rfl,r0,r1,rD,pD,ub⟩;have k4:=k3.kept pD (λe=>d1 (Option.some.inj e).symm);have nk:=ub.sl nj;have I4:=ub.sl sU;obtain⟨z0,z1,-,-⟩:=pt2 k4))
 clear mA nj k3 sU pD ub;by_cases hq:q2=1
 ·subst hq
  go_upto_region 5 with fail;refine a0n (λW5 bL=> ?_);obtain⟨S5,I5,Nu,lT⟩:∃S5,ST n₀ D sv xs S w S5 W5/\SL S5 W5 41 (.slice (some ⟨W4.heap.size,0,none⟩) 5 5) 5/\SL S5 W5 71 (.slice ea m lK) m:=by
   rw[bL];refine⟨λb=>S3 b\/b=W4.heap.size,rD.allocT (b7d (λu hu=> ?_)),SL.blk (.inr rfl) (Blk.new _ _ _) (by show 5*2<=10;omega),nk.mono (λ_ h=> .inl h) (λb c e hb hc=>⟨c,hc.alloc _,rfl⟩)⟩;simp only[List.mem_cons,List.not_mem_nil,or_false]at hu;rcases hu with rfl|rfl|rfl|rfl|rfl|rfl|rfl|rfl|rfl|rfl <;> exact⟨_,rfl,zF⟩
  clear bL rD nk I4 k4 z0 z1;go_wp2_with (first
   |(go_at_call 79;refine(b0l n₀ D sv xs S5 _ I5.td _ m lT xM _ 5 Nu xM _ _ jM fa).mono ?_;rintro e W9⟨S9,v9,rfl,⟨m9,aQ,AR⟩,oY,cg⟩))
  go_ret;exact⟨S9,_,rfl,⟨m9,aQ,AR⟩,oY,(I5.then_ oY cg).ev⟩
 ·have wY:(q2==1)=false:=by simpa using hq
  go_wp2_with (first
   |(go_at_call 79;refine(b0l n₀ D sv xs S3 _ rD.td _ m nk xM _ 4 I4 xM _ _ jM fa).mono ?_;rintro e W9⟨S9,v9,rfl,⟨m9,aQ,AR⟩,oY,cg⟩))
  go_ret;exact⟨S9,_,rfl,⟨m9,aQ,AR⟩,oY,(rD.then_ oY cg).ev⟩
structure Same1 (w w2:Wd):Prop where
 eq:w=w2
section
variable {w W W':Wd}{D BO:Nat}{fv:Vu}{fs:List Int}{S S':BS}
theorem M7.next (h:M7 w D BO fv fs S W)(m:Int)(dy:1<=m)(b8:m<=1000000) :
 Calls prog 43 #[.pointer (some ⟨D,0,none⟩),.int .i64 m] W λe W'=>∃v,e= .returned (.int .i64 v)/\0<=v/\v<m/\M7 w D BO fv fs S W'/\W.grownBy W' (some D)/\Ev (a7d D) S W S W':=by
 refine(h.td.call m dy xM).mono ?_;rintro e W'⟨v,rfl,h0,h1,h2,hg,he⟩;exact⟨v,rfl,h0,h1,⟨h2,h.ob.kept hg (λe=>h.dO (Option.some.inj e).symm),h.nO,h.lO,h.dO,h.bel.wide he (λb hb=>by cases hb;exact h.td.le)⟩,hg,he⟩
end
section
variable {w W W':Wd}{D BO E:Nat}{fv tv:Vu}{fs ts:List Int}{S S':BS}
theorem M8.next (h:M8 w D BO fv fs E tv ts S W)(m:Int)(dy:1<=m)(b8:m<=1000000) :
 Calls prog 43 #[.pointer (some ⟨D,0,none⟩),.int .i64 m] W λe W'=>∃v,e= .returned (.int .i64 v)/\0<=v/\v<m/\M8 w D BO fv fs E tv ts S W'/\W.grownBy W' (some D)/\Ev (a7d D) S W S W':=by
 refine(h.m7.next m dy b8).mono ?_;rintro e W'⟨v,rfl,h0,h1,h2,hg,he⟩;exact⟨v,rfl,h0,h1,⟨h2,h.te.ev he (λb hb=>by cases hb;exact⟨h.m7.td.le,h.dE⟩),h.dE,h.oE⟩,hg,he⟩
end
section
variable {w W W':Wd}{D BO E:Nat}{fv tv sv:Vu}{fs ts ss:List Int}{S S':BS}
theorem M8.island (h:M8 w D BO fv fs E tv ts S W)(ev:Vu)(m:Nat)(cT:SL S W 71 ev m)(hm:m<=99)(x y a:Int)(fx:a0l x)(fy:a0l y)(fa:a0l a) :
 Calls prog 83 #[ev,.agg #[.int .i64 x,.int .i64 y],.int .i64 a,.pointer (some ⟨E,0,none⟩)] W λe W'=>∃S' v,e= .returned v/\(∃m',SL S' W' 71 v m'/\m'<=m+1)/\M8 w D BO fv fs E tv ts S' W'/\Ev (a7d E) S W S' W':=by
 refine(b8p _ E tv ts S W h.te ev m cT hm x y a fx fy fa).mono ?_;rintro e W'⟨S',v,rfl,h1,h3,h4⟩;exact⟨S',v,rfl,h1,h.then_ h3 h4,h4⟩
theorem M7.third (h:M7 w D BO fv fs noB W)(ht:Intz w.heap.size w tv ts):M8 w D BO fv fs W.heap.size tv ts noB (W.alloc (.cells #[tv,.int .i64 0] 112)):=by
 have hb:Below W.heap.size W (W.alloc (.cells #[tv,.int .i64 0] 112)):=(zR _ _).alloc (yR _) _;have hB:Below w.heap.size w (W.alloc (.cells #[tv,.int .i64 0] 112)):=(h.bel.below (λ_ h=>h.elim) (λ_ h=>h.elim) (yR _)).trans (hb.mono h.bel.size);have mz:=h.td.lt;have Bz:=h.ob.lt;exact⟨h.up hb,⟨TW.none _,⟨0,Nat.zero_le _,Blk.new _ _ _⟩,ht.ints.below hB,h.bel.size,ht.len,λ_ h=>h.elim,λh=>h⟩,xM,xM⟩
end
def a9h (rows:List (Value×List Int))(k:Nat):Value:=((rows[k]?).map (·.1)).getD (.slice none 0 0)
def c5z (rows:List (Value×List Int))(k:Nat):List Int:=((rows[k]?).map (·.2)).getD []
theorem a6r {n₀:Nat}{w:Wd}{lv:Vu}{rows:List (Value×List Int)}(hM:Mat n₀ w lv rows)(k:Nat):Intz n₀ w (a9h rows k) (c5z rows k):=by
 obtain⟨a,cap,rfl,hc,ag⟩:=hM;unfold a9h c5z;by_cases h:k<rows.length
 ·obtain⟨b,off,rfl,hb,c0,hi⟩:=ag k h
  rw[List.getElem?_eq_getElem h];exact hi
 ·rw[List.getElem?_eq_none xM]
  exact Intz.nil _ _
theorem b1k (n₀:Nat)(w:Wd)(lv:Vu)(rows:List (Value×List Int))(hM:Mat n₀ w lv rows)(k:Nat) :
 Calls prog 42 #[lv,.int .i64 (k:Nat)] w λe w'=>e= .returned (a9h rows k)/\w=w':=by
 obtain⟨a,cap,rfl,hc,ag⟩:=hM;go_enter func42,ntmps42;by_cases h:k<rows.length
 ·obtain⟨b,off,rfl,hb,c0,hi⟩:=ag k h
  have hle:¬(rows.length:Int)<=(k:Int):=xM;have ab:(k:Int)<(rows.length:Int):=xM;have hv:a9h rows k=rows[k].1:=by unfold a9h;rw[List.getElem?_eq_getElem h];rfl
  rw[hv];obtain⟨row,i7⟩:=zE (rows[k].1);rw[i7]at c0;rw[i7];clear ag i7 hi hv;go_wp2_with fail;go_ret;exact⟨rfl,rfl⟩
 ·have hle:(rows.length:Int)<=(k:Int):=xM
  have hv:a9h rows k= .slice none 0 0:=by unfold a9h;rw[List.getElem?_eq_none xM];rfl
  rw[hv];clear ag hv;go_wp2_with fail;go_ret;exact⟨rfl,rfl⟩
abbrev c7t :Array Value:= #[.slice none 0 0,.slice none 0 0,.slice none 0 0,.slice none 0 0]
section
variable {α:Type}{E:El α}{P:Program}{st:Td}{w:Wd}{l:List α}
end
section
variable {n₀ D:Nat}{sv:Vu}{xs:List Int}{S0 S S':BS}{W0 W W':Wd}{L:a5g}{T:SlL}{B i:Nat}{c c':Array Value}{t:Td}{ov v:Vu}{l:List Pc}{p:Nat×Array Value×TypeId}
end
def PlV (n₀ D:Nat)(sv:Vu)(xs:List Int)(S:BS)(w:Wd)(M B2:Nat)(ev fv wv pv:Vu)(ne nf:Nat)(ov kk:Vu)(wr:Wd):Prop :=
 ∃(k:Nat) (S':BS) (l:List Pc),k<=M/\kk= .int .i64 (k:Nat)/\l.length<=k/\PlsOk l/\DP n₀ D sv xs S w S' wr [(B2,b1u ev fv wv pv,32)] [(71,ev,ne),(43,fv,nf)] ov l
theorem DP.pd {n₀ D:Nat}{sv:Vu}{xs:List Int}{S0 S:BS}{W0 W W':Wd}{L:a5g}{T:SlL}{B:Nat}{id x y wt d:Int}{cs ns:Bw}{t:Td}{ov:Vu}{l:List Pc}(h:DP n₀ D sv xs S0 W0 S W ((B,c7r id x y cs ns wt 0,t)::L) T ov l)(hW:W'=W.setCell ⟨B,6,none⟩ (.int .i64 d)):DP n₀ D sv xs S0 W0 S W' ((B,c7r id x y cs ns wt d,t)::L) T ov l:=h.put hW rfl
theorem b1l (n₀:Nat)(S:BS)(w:Wd)(hT:TW S w)(dv:∀b,S b->n₀<=b)(bX:n₀<=w.heap.size)(sv:Vu)(xs:List Int)(hI:Intz n₀ w sv xs)
 (ev fv:Vu) (ne nf:Nat) (cT:SL S w 71 ev ne) (an:ne<=100) (jd:SL S w 43 fv nf) (bZ:nf<=200) (wa pa:Option Addr) (wn wc pn pc:Nat) :
 Calls prog 45 #[.agg (b1u ev fv (.slice wa wn wc) (.slice pa pn pc)),sv] w λe w'=>∃S' v l,e= .returned v/\l.length<=6/\PlsOk l/\w'.ownsRow w.heap.size 48 7 v l.length (l.flatMap plE.enc)/\(∀g,v.ownBlock=some g->¬S' g)/\Ev noB S w S' w':=by
 obtain⟨ea,ec,rfl,-⟩:=cT.form;obtain⟨fa,fc,rfl,-⟩:=jd.form;obtain⟨sa,sc,rfl⟩:∃a c,sv= .slice a xs.length c:=by
  obtain⟨⟨a,c,e,-⟩,-⟩:=hI;exact⟨a,c,e⟩
 have ah:Below w.heap.size w (w.alloc (.cells (b1u (.slice ea ne ec) (.slice fa nf fc) (.slice wa wn wc) (.slice pa pn pc)) 32)):=zC;have pC:=TD.new (Ev.of_below (X:=noB) hT ah).ok dv (Nat.le_trans bX ah.size) (hI.below (ah.mono bX));have aq:Below w.heap.size w ((w.alloc (.cells (b1u (.slice ea ne ec) (.slice fa nf fc) (.slice wa wn wc) (.slice pa pn pc)) 32)).alloc (.cells #[.slice sa xs.length sc,.int .i64 0] 112)):=zC;have hB:=(Blk.new w (b1u (.slice ea ne ec) (.slice fa nf fc) (.slice wa wn wc) (.slice pa pn pc)) 32).alloc (.cells #[.slice sa xs.length sc,.int .i64 0] 112);simp only[World.size_alloc]at pC;go_enter func45,ntmps45;go_upto_region 3 with fail;refine a0n (λW1 ao=> ?_);rw[<-ao]at pC aq hB;have I6:¬S w.heap.size:=λh=>Nat.lt_irrefl _ (hT.lt h)
 obtain⟨B2,gy⟩:=zE w.heap.size;obtain⟨D,hD⟩:=zE (w.heap.size+1);obtain⟨sv,bj⟩:=zE (Value.slice sa xs.length sc);have vC:w.heap.size<=D:=xM;have eN:DY n₀ D sv xs S w S W1 [(B2,b1u (.slice ea ne ec) (.slice fa nf fc) (.slice wa wn wc) (.slice pa pn pc),32)] [(71,.slice ea ne ec,ne),(43,.slice fa nf fc,nf)]:=by
  have hE:=Ev.of_below (X:=a7d D) hT aq;rw[hD,bj]at pC;refine⟨⟨pC,hE,bX⟩,λp hp=> ?_,by simp,λq hq=> ?_⟩
  ·simp only[List.mem_cons,List.not_mem_nil,or_false]at hp
   subst hp;exact⟨by rw[<-gy];exact hB,by rw[<-gy];exact I6,by show B2≠D;omega,by show w.heap.size<=B2;omega⟩
  ·simp only[List.mem_cons,List.not_mem_nil,or_false]at hq
   rcases hq with rfl|rfl
   ·exact hE.sl cT
   ·exact hE.sl jd
 rw[hD,gy,bj];clear pC ah aq hB ao hD bj hI I6 gy dv bX;go_wp2_with (first
  |(go_at_call 43;(with_reducible refine(eN.call 7 xM xM).mono ?_);rintro e W2⟨many,rfl,m0,m1,bM⟩))
 obtain⟨M,rfl⟩:∃M:Nat,many=M:=⟨many.toNat,xM⟩;have BF:M<=6:=xM;obtain⟨ev,bg⟩:=zE (Value.slice ea ne ec);obtain⟨fv,pE⟩:=zE (Value.slice fa nf fc);obtain⟨wv,BG⟩:=zE (Value.slice wa wn wc);obtain⟨pv,mR⟩:=zE (Value.slice pa pn pc);rw[bg,pE,BG,mR]at bM;rw[bg,pE,BG,mR];have Lo:∀(S:BS) (W:Wd),TW S W->SL S W 43 fv nf->∀id,Calls prog 89 #[.agg (b1u ev fv wv pv),.int .i64 id] W λe w'=>(∃x,e= .returned (.int .i64 x)/\a0l x)/\Below W.heap.size W w':=λS W h1 h2 id=>by
  rw[<-bg,<-pE,<-BG,<-mR];rw[<-pE]at h2;exact a7n S W h1 _ _ _ _ _ _ _ _ _ _ _ nf h2 bZ id
 clear bg pE BG mR;go_loopw [6,8] (λov kk wr=>PlV n₀ D sv xs S w M B2 ev fv wv pv ne nf ov kk wr) (λ_ kk _=>M-(intOf kk).toNat)
 case atStart=>exact⟨0,S,[],xM,rfl,by simp,PlsOk.nil,bM,⟨by simp,.inl ⟨rfl,by simp⟩⟩,λg e=>by cases e⟩
 case round =>
  clear eN bM;obtain⟨k,S',l,hk,rfl,hn,iZ,hd⟩:=hrel;by_cases ab:k<M
  ·have aj:(k:Int)<(M:Int):=xM
   obtain⟨oa,oc,rfl,-⟩:=(a0g a2n hd.row xM).form;go_upto_if 28 with(first
    |(go_at_call 43;(with_reducible refine(hd.call 10 xM xM).mono ?_);rintro e W2⟨s,rfl,s0,s1,bM⟩)
    |(go_at_call 43;(with_reducible refine(bM.call 2 xM xM).mono ?_);rintro e W3⟨q,rfl,q0,q1,lD⟩))
   by_cases hq:q=1
   ·subst hq
    exact yab
   ·have wY:(q==1)=false:=by simpa using hq
    exact yab
  ·have aT:¬(k:Int)<(M:Int):=xM
   go_wp2_with fail;go_ret;exact⟨S',_,rfl,l,xM,iZ,hd.row,λg e=>(hd.off g e).1,hd.d.fin (Ev.refl hT) vC⟩
end
end Go.Proofs.YteijfnkidefekaaGreat
