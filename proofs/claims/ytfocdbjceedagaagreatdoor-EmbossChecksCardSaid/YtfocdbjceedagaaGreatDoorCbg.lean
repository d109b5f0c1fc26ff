/-
  Parts.
-/
import Derived.Test.YtfocdbjceedagaaGreatDoorCbf
set_option linter.unusedVariables false
set_option linter.unusedSimpArgs false
set_option maxHeartbeats 8000000
set_option maxRecDepth 100000
namespace Go.Proofs.YtfocdbjceedagaaGreatDoor
open Tryz
section
open Go Go.RowKit Go.Shelf Go.Lib
variable{B9 i:Nat}{d9 k9 l9 r0 r1 r2 v:Vu}{W w w':Wd}
structure Pl5 (L:Nat)(W:Wd):Prop where
 at_:∀k,k<5->∃d q l,(W.cell? ⟨L,k*3,none⟩=some d/\W.cell? ⟨L,k*3+1,none⟩=some q/\W.cell? ⟨L,k*3+2,none⟩=some l)/\PlX 2 (a1t d q l) W
 lt:L<W.heap.size
theorem Pl5.up {L:Nat}{W':Wd}(h:Pl5 L W)(hb:Below W.heap.size W W'):Pl5 L W' :=
 ⟨λk hk=>by
  obtain⟨d,q,l,⟨h1,h2,h3⟩,h4⟩:=h.at_ k hk;exact⟨d,q,l,⟨a0e hb h1,a0e hb h2,a0e hb h3⟩,h4.up hb⟩,Nat.lt_of_lt_of_le h.lt hb.size⟩
theorem Pl5.new {p0 p1 p2 x0 x1 x2 y0 y1 y2 u0 u1 u2:Vu}(hp:PlX 0 (a1t p0 p1 p2) W)(hr:PlX 0 (a1t r0 r1 r2) W)(hx:PlX 1 (a1t x0 x1 x2) W)(hy:PlX 1 (a1t y0 y1 y2) W)(hu:PlX 2 (a1t u0 u1 u2) W):
 Pl5 W.heap.size (W.alloc (.cells #[p0,p1,p2,r0,r1,r2,x0,x1,x2,y0,y1,y2,u0,u1,u2] 45)):=by
 have k:=Blk.new W #[p0,p1,p2,r0,r1,r2,x0,x1,x2,y0,y1,y2,u0,u1,u2] 45;have hb:Below W.heap.size W (W.alloc (.cells #[p0,p1,p2,r0,r1,r2,x0,x1,x2,y0,y1,y2,u0,u1,u2] 45)):=(zR _ _).alloc (yR _) _;refine⟨λi hi=> ?_,k.lt⟩;match i,hi with
 |0,_=>exact⟨_,_,_,⟨k.cell 0,k.cell 1,k.cell 2⟩,(hp.mono (Nat.zero_le _)).up hb⟩
 |1,_=>exact⟨_,_,_,⟨k.cell 3,k.cell 4,k.cell 5⟩,(hr.mono (Nat.zero_le _)).up hb⟩
 |2,_=>exact⟨_,_,_,⟨k.cell 6,k.cell 7,k.cell 8⟩,(hx.mono oM).up hb⟩
 |3,_=>exact⟨_,_,_,⟨k.cell 9,k.cell 10,k.cell 11⟩,(hy.mono oM).up hb⟩
 |4,_=>exact⟨_,_,_,⟨k.cell 12,k.cell 13,k.cell 14⟩,hu.up hb⟩
 |n+5,h=>omega
def FCq9 (wr:Wd)(B9 B11 BQ:Nat)(d9 k9 l9 r0 r1 r2:Vu)(zz0 zz1 zz2 zz3 zz4 zz5 zz6 zz7 zz8:Int)(i:Nat)(v:Vu)(w:Wd):Prop :=
 match i with
 |0=>v= .agg #[d9,k9,l9]
 |1=>v= .agg #[r0,r1,r2]
 |2=>v= .agg #[d9,k9,l9]
 |3=>v= .pointer (some ⟨BQ,0,none⟩)
 |4=>v= .agg #[.int .i64 zz0,.int .i64 zz1,.int .i64 zz2]
 |5=>PlX 1 v w
 |6=>v= .agg #[d9,k9,l9]
 |7=>v= .pointer (some ⟨BQ,3,none⟩)
 |8=>v= .agg #[.int .i64 zz3,.int .i64 zz4,.int .i64 zz5]
 |9=>PlX 1 v w
 |10=>v= .agg #[d9,k9,l9]
 |11=>v= .pointer (some ⟨BQ,0,none⟩)
 |12=>v= .agg #[.int .i64 zz0,.int .i64 zz1,.int .i64 zz2]
 |13=>PlX 1 v w
 |14=>v= .pointer (some ⟨BQ,6,none⟩)
 |15=>v= .agg #[.int .i64 zz6,.int .i64 zz7,.int .i64 zz8]
 |16=>PlX 2 v w
 |17=>∃L,v= .slice (some ⟨L,0,none⟩) 5 5/\Pl5 L w
 |_=>False
theorem FCq9.kept {wr:Wd}{B11 BQ:Nat}{zz0 zz1 zz2 zz3 zz4 zz5 zz6 zz7 zz8:Int}(h:FCq9 wr B9 B11 BQ d9 k9 l9 r0 r1 r2 zz0 zz1 zz2 zz3 zz4 zz5 zz6 zz7 zz8 i v w)(hg:Below w.heap.size w w'):FCq9 wr B9 B11 BQ d9 k9 l9 r0 r1 r2 zz0 zz1 zz2 zz3 zz4 zz5 zz6 zz7 zz8 i v w':=by
 unfold FCq9 at *;split at h
 all_goals first|exact h|(exact h.up hg)|(obtain⟨L,h1,h2⟩:=h;exact⟨L,h1,h2.up hg⟩)
def FCk9 (n2 B9 gy:Nat)(ea fa wa pa a1 a2 a3 a4:Option Addr)(ne ec nf fc nw wc pc m1 d1 m2 d2 m3 d3 d4:Nat)(l l2:List Pc)(s:Sh)(d9 k9 l9 dx kx lx:Vu)(c1 c2:Int)(sb:Bool)(i:Nat)(v:Vu)(w:Wd):Prop :=
 match i with
 |0=>v= .agg #[.slice ea ne ec,.slice fa nf fc,.slice wa nw wc,.slice pa l.length pc]
 |1=>v= .agg #[.int .i64 s.ax,.int .i64 s.ay,.int .i64 s.st,.int .i64 s.w,.int .i64 s.h,.int .i64 s.g]
 |2=>v= .agg #[dx,kx,lx]
 |3=>v= .int .i64 c1
 |4=>v= .agg #[.slice ea ne ec,.slice fa nf fc,.slice wa nw wc,.slice pa l.length pc]
 |5=>v= .agg #[.int .i64 s.ax,.int .i64 s.ay,.int .i64 s.st,.int .i64 s.w,.int .i64 s.h,.int .i64 s.g]
 |6=>v= .agg #[dx,kx,lx]
 |7=>v= .int .i64 c1
 |8=>v= .bool false
 |9=>v= .bool false
 |10=>v= .agg #[.slice a1 m1 d1,.slice a2 m2 d2,.slice a3 m3 d3,.slice a4 l2.length d4]
 |11=>v= .agg #[.int .i64 s.ax,.int .i64 s.ay,.int .i64 s.st,.int .i64 s.w,.int .i64 s.h,.int .i64 s.g]
 |12=>v= .agg #[dx,kx,lx]
 |13=>v= .int .i64 c2
 |14=>v= .agg #[.slice a1 m1 d1,.slice a2 m2 d2,.slice a3 m3 d3,.slice a4 l2.length d4]
 |15=>v= .agg #[.int .i64 s.ax,.int .i64 s.ay,.int .i64 s.st,.int .i64 s.w,.int .i64 s.h,.int .i64 s.g]
 |16=>v= .agg #[dx,kx,lx]
 |17=>v= .int .i64 c2
 |18=>v= .bool false
 |19=>v= .bool false
 |20=>v= .bool false
 |21=>v= .agg #[d9,k9,l9]
 |22=>v= .agg #[dx,kx,lx]
 |23=>v= .bool sb
 |24=>v= .agg #[d9,k9,l9]
 |25=>v= .agg #[dx,kx,lx]
 |26=>v= .bool sb
 |27=>v= .bool false
 |_=>False
theorem FCk9.kept {n2 gy:Nat}{ea fa wa pa a1 a2 a3 a4:Option Addr}{ne ec nf fc nw wc pc m1 d1 m2 d2 m3 d3 d4:Nat}{l l2:List Pc}{s:Sh}{dx kx lx:Vu}{c1 c2:Int}{sb:Bool}(h:FCk9 n2 B9 gy ea fa wa pa a1 a2 a3 a4 ne ec nf fc nw wc pc m1 d1 m2 d2 m3 d3 d4 l l2 s d9 k9 l9 dx kx lx c1 c2 sb i v w)(hg:Below w.heap.size w w'):FCk9 n2 B9 gy ea fa wa pa a1 a2 a3 a4 ne ec nf fc nw wc pc m1 d1 m2 d2 m3 d3 d4 l l2 s d9 k9 l9 dx kx lx c1 c2 sb i v w':=by
 unfold FCk9 at *;split at h
 all_goals first|exact h
theorem c8s (la:Option Addr)(ar:Nat)(rows:List (Value×List Int))(q0 q1 q2 b0 b1 b2 b3:Int)(raw:Sh)(zz0 zz1 zz2 zz3 zz4 zz5 zz6 zz7 zz8:Int)(df:fits q0)(cT:fits q1)(cU:fits q2)(h0:0<=b0/\b0<=255)(h1:0<=b1/\b1<=255)(h2:0<=b2/\b2<=255)(h3:0<=b3/\b3<=255)(fx:fits raw.ax)(fy:fits raw.ay)(w:Wd)(hM:Mat w.heap.size w (.slice la rows.length ar) rows)(hPow:Pow w):
 Zc prog 4 #[.agg (b0o (.slice la rows.length ar) q0 q1 q2 b0 b1 b2 b3 raw),.agg (q33 zz0 zz1 zz2 zz3 zz4 zz5 zz6 zz7 zz8)] w (.bool true):=by
 have EY:=λ(W:Wd) (hb:Below w.heap.size w W)=>d6g W (λX h=>hPow.below (hb.trans (h.mono hb.size)))
 have zB:=λ(W:Wd) (hb:Below w.heap.size w W)=>d9v la ar rows q0 q1 q2 b0 b1 b2 b3 raw df cT cU h0 h1 h2 h3 W ((hM.below hb).mono hb.size)
 obtain⟨KX,KY⟩:=c4q (a:=b0) (b:=b1) (c:=b2) (d:=b3) fx fy;go_enter func4,ntmps4;go_upto_region 1 with fail;have kC:=(Blk.new w (b0o (.slice la rows.length ar) q0 q1 q2 b0 b1 b2 b3 raw) 30).alloc (.cells (q33 zz0 zz1 zz2 zz3 zz4 zz5 zz6 zz7 zz8) 59);have kQ:=Blk.new (w.alloc (.cells (b0o (.slice la rows.length ar) q0 q1 q2 b0 b1 b2 b3 raw) 30)) (q33 zz0 zz1 zz2 zz3 zz4 zz5 zz6 zz7 zz8) 59;have ed:Below w.heap.size w ((w.alloc (.cells (b0o (.slice la rows.length ar) q0 q1 q2 b0 b1 b2 b3 raw) 30)).alloc (.cells (q33 zz0 zz1 zz2 zz3 zz4 zz5 zz6 zz7 zz8) 59)):=((zR _ _).alloc (yR _) _).alloc vM _;obtain⟨W0,eA⟩:=zE ((w.alloc (.cells (b0o (.slice la rows.length ar) q0 q1 q2 b0 b1 b2 b3 raw) 30)).alloc (.cells (q33 zz0 zz1 zz2 zz3 zz4 zz5 zz6 zz7 zz8) 59));simp only[World.size_alloc]at kQ;rw[eA]at kC kQ ed ⊢;clear eA;go_upto_region 2 with(first
  |(go_at_call 8;(with_reducible refine(EY _ ed).mono ?_);rintro e w1⟨rfl,aw⟩))
 have lq:=ed.trans (aw.mono ed.size);have NK:=kC.below aw kC.lt;have Gu:=kQ.below aw kQ.lt;clear kC kQ aw EY ed;obtain⟨BQ,uq⟩:=zE (w.heap.size+1);rw[uq]at Gu ⊢;obtain⟨c0,c1,c2,c3,c4,c5,c6,c7,c8,c9,yu,DK,D4,D5⟩:=e4e NK;obtain⟨s,bO⟩:=zE (a7d b0 b1 b2 b3 raw);rw[bO]at zB KX KY;clear bO;go_upto_region 3 with(first
  |(go_at_call 9;(with_reducible refine(zB _ lq).mono ?_);rintro e w2⟨ea,ne,ec,fa,nf,fc,wa,nw,wc,pa,pc,a1,m1,d1,a2,m2,d2,a3,m3,d3,a4,d4,l,ws,l2,uv,rfl,NL,AR,az⟩))
 clear c0 c1 c2 c3 c4 c5 c6 c7 c8 c9 yu DK D4 D5 NK zB;have km:=((Blk.new w2 #[.slice ea ne ec,.slice fa nf fc,.slice wa nw wc,.slice pa l.length pc] 37).alloc (.cells #[.slice a1 m1 d1,.slice a2 m2 d2,.slice a3 m3 d3,.slice a4 l2.length d4] 37)).alloc (.cells #[.int .i64 s.ax,.int .i64 s.ay,.int .i64 s.st,.int .i64 s.w,.int .i64 s.h,.int .i64 s.g] 28);have ko:=(Blk.new (w2.alloc (.cells #[.slice ea ne ec,.slice fa nf fc,.slice wa nw wc,.slice pa l.length pc] 37)) #[.slice a1 m1 d1,.slice a2 m2 d2,.slice a3 m3 d3,.slice a4 l2.length d4] 37).alloc (.cells #[.int .i64 s.ax,.int .i64 s.ay,.int .i64 s.st,.int .i64 s.w,.int .i64 s.h,.int .i64 s.g] 28);have ks:=Blk.new ((w2.alloc (.cells #[.slice ea ne ec,.slice fa nf fc,.slice wa nw wc,.slice pa l.length pc] 37)).alloc (.cells #[.slice a1 m1 d1,.slice a2 m2 d2,.slice a3 m3 d3,.slice a4 l2.length d4] 37)) #[.int .i64 s.ax,.int .i64 s.ay,.int .i64 s.st,.int .i64 s.w,.int .i64 s.h,.int .i64 s.g] 28;obtain⟨W3,ez⟩:=zE (((w2.alloc (.cells #[.slice ea ne ec,.slice fa nf fc,.slice wa nw wc,.slice pa l.length pc] 37)).alloc (.cells #[.slice a1 m1 d1,.slice a2 m2 d2,.slice a3 m3 d3,.slice a4 l2.length d4] 37)).alloc (.cells #[.int .i64 s.ax,.int .i64 s.ay,.int .i64 s.st,.int .i64 s.w,.int .i64 s.h,.int .i64 s.g] 28));have fA:Below w2.heap.size w2 W3:=by rw[<-ez];exact(((zR _ _).alloc (yR _) _).alloc vM _).alloc uM _
 simp only[World.size_alloc]at ks ko;rw[ez]at km ko ks ⊢;have vU:=NL.up fA;have EZ:=AR.up fA;have eN:=az.trans (fA.mono az.size);have fw:=lq.trans (eN.mono lq.size);have KZ:=Gu.below eN Gu.lt;obtain⟨n2,iP⟩:=zE w2.heap.size;rw[iP]at km ko ks ⊢;clear ez iP fA NL AR az lq hM eN Gu;have eW:∀X,Below W3.heap.size W3 X->Pow X:=λX h=>hPow.below (fw.trans (h.mono fw.size))
 clear hPow;have na:∀X,Below W3.heap.size W3 X->(X.cell? ⟨n2,0,none⟩=some (.slice ea ne ec)/\X.cell? ⟨n2,1,none⟩=some (.slice fa nf fc)/\X.cell? ⟨n2,2,none⟩=some (.slice wa nw wc)/\X.cell? ⟨n2,3,none⟩=some (.slice pa l.length pc))/\(X.cell? ⟨n2+1,0,none⟩=some (.slice a1 m1 d1)/\X.cell? ⟨n2+1,1,none⟩=some (.slice a2 m2 d2)/\X.cell? ⟨n2+1,2,none⟩=some (.slice a3 m3 d3)/\X.cell? ⟨n2+1,3,none⟩=some (.slice a4 l2.length d4))/\(X.cell? ⟨n2+1+1,0,none⟩=some (.int .i64 s.ax)/\X.cell? ⟨n2+1+1,1,none⟩=some (.int .i64 s.ay)/\X.cell? ⟨n2+1+1,2,none⟩=some (.int .i64 s.st)/\X.cell? ⟨n2+1+1,3,none⟩=some (.int .i64 s.w)/\X.cell? ⟨n2+1+1,4,none⟩=some (.int .i64 s.h)/\X.cell? ⟨n2+1+1,5,none⟩=some (.int .i64 s.g)):=λX h=>by
  have k1:=km.below h km.lt;have k2:=ko.below h ko.lt;have k3:=ks.below h ks.lt;exact⟨⟨k1.cell 0,k1.cell 1,k1.cell 2,k1.cell 3⟩,⟨k2.cell 0,k2.cell 1,k2.cell 2,k2.cell 3⟩,k3.cell 0,k3.cell 1,k3.cell 2,k3.cell 3,k3.cell 4,k3.cell 5⟩
 obtain⟨⟨m0,K0,K1,K2⟩,⟨o0,o1,o2,o3⟩,s0,s1,s2,s3,s4,s5⟩:=na W3 (zR _ _);replace na:=Lib.hid na;clear km ko ks;have sq:=λX (hb:Below W3.heap.size W3 X)=>d2s s (.slice ea ne ec) (.slice fa nf fc) (.slice wa nw wc) (.slice pa l.length pc) l ws X (vU.od.up hb)
 have zH:=λX (hb:Below W3.heap.size W3 X)=>d2s s (.slice a1 m1 d1) (.slice a2 m2 d2) (.slice a3 m3 d3) (.slice a4 l2.length d4) l2 uv X (EZ.up hb)
 have Cd:=d3i (s:=s) vU.od;have K3:=d3i (s:=s) EZ;obtain⟨pl,zJ⟩:=zE (c8p s ws l);obtain⟨rp,zK⟩:=zE (c8p s uv l2);obtain⟨e1,xS⟩:=zE (a2m s l.length);obtain⟨e2,iH⟩:=zE (a2m s l2.length);simp only[zJ,xS]at sq;simp only[zK,iH]at zH;rw[zJ]at Cd;rw[zK]at K3;clear zJ zK xS iH;go_upto_region 4 with(first
  |(go_at_call 11;(with_reducible refine(sq _ (zR _ _)).mono ?_);rintro e w4⟨v,rfl,Gv,eC⟩
    obtain⟨d9,k9,l9,rfl,⟨wq,-⟩,⟨wu,-⟩,wz,-⟩:=Gv.ex;obtain⟨E0,E1,rfl,-⟩:=wq.form;obtain⟨E2,E3,rfl,-⟩:=wu.form;obtain⟨yC,E4,rfl,-⟩:=wz.form;clear wq wu wz))
 obtain⟨d9,rV⟩:=zE (Value.slice E0 pl.dots.length E1);obtain⟨k9,iW⟩:=zE (Value.slice E2 pl.keys.length E3);obtain⟨l9,mN⟩:=zE (Value.slice yC pl.left.length E4);rw[rV,iW,mN]at Gv ⊢;clear rV iW mN;have E5:=Blk.new w4 #[d9,k9,l9] 45;have eh:Below w4.heap.size w4 (w4.alloc (.cells #[d9,k9,l9] 45)):=(zR _ _).alloc (yR _) _;obtain⟨W4,cQ⟩:=zE (w4.alloc (.cells #[d9,k9,l9] 45));obtain⟨B9,cn⟩:=zE w4.heap.size;rw[cQ]at E5 eh ⊢;have jL:=eC.trans (eh.mono eC.size);have E6:=Gv.up eh;rw[cn]at E5 ⊢;clear cQ cn eh eC Gv sq m0 K0 K1 K2 o0 o1 o2 o3 s0 s1 s2 s3 s4 s5;obtain⟨⟨m0,K0,K1,K2⟩,⟨o0,o1,o2,o3⟩,s0,s1,s2,s3,s4,s5⟩:=na.out W4 jL;go_upto_region 5 with(first
  |(go_at_call 11;(with_reducible refine(zH _ jL).mono ?_);rintro e w5⟨v,rfl,Gw,aZ⟩
    obtain⟨r0,r1,r2,rfl,⟨wq,-⟩,⟨wu,-⟩,wz,-⟩:=Gw.ex;obtain⟨E0,E1,rfl,-⟩:=wq.form;obtain⟨E2,E3,rfl,-⟩:=wu.form;obtain⟨yC,E4,rfl,-⟩:=wz.form;clear wq wu wz))
 obtain⟨r0,rV⟩:=zE (Value.slice E0 rp.dots.length E1);obtain⟨r1,iW⟩:=zE (Value.slice E2 rp.keys.length E3);obtain⟨r2,mN⟩:=zE (Value.slice yC rp.left.length E4);rw[rV,iW,mN]at Gw ⊢;clear rV iW mN;have uF:=Blk.new w5 #[r0,r1,r2] 45;have eh:Below w5.heap.size w5 (w5.alloc (.cells #[r0,r1,r2] 45)):=(zR _ _).alloc (yR _) _;obtain⟨W5,iq⟩:=zE (w5.alloc (.cells #[r0,r1,r2] 45));obtain⟨B11,nR⟩:=zE w5.heap.size;rw[iq]at uF eh ⊢;have uG:=aZ.trans (eh.mono aZ.size);have rO:=jL.trans (uG.mono jL.size);have K4:OnR W5 B9 B11 BQ d9 k9 l9 r0 r1 r2 zz0 zz1 zz2 zz3 zz4 zz5 zz6 zz7 zz8 pl W5:=⟨zR _ _,E5.below uG E5.lt,nR▸uF,KZ.below rO KZ.lt,E6.up uG,(d7o Gw K3).up eh⟩;rw[nR]at uF ⊢;clear iq nR eh aZ Gw K3 zH m0 K0 K1 K2 o0 o1 o2 o3 s0 s1 s2 s3 s4 s5 E6 E5 uF jL uG KZ;refine Go.wp_region_rel 18 zM zM (λ_ W=>OnR W5 B9 B11 BQ d9 k9 l9 r0 r1 r2 zz0 zz1 zz2 zz3 zz4 zz5 zz6 zz7 zz8 pl W) (λw w'=>Below w.heap.size w w') (FCq9 W5 B9 B11 BQ d9 k9 l9 r0 r1 r2 zz0 zz1 zz2 zz3 zz4 zz5 zz6 zz7 zz8) (λ_ _ _ _ h g=>h.kept g) (K4.up (zR _ _).drew) ?step5 ?tail5
 case step5 =>
  clear K4 rO na eW vU EZ fw;intro i o hi ho c bb W hc hM hA hD K hK;match i,hi,ho with
  |0,_,ho =>
   exact ybb
  |1,_,ho =>
   cases ho;have f11:=a0a (v:= .pointer (some ⟨B11,0,none⟩)) (hA.at_ (k:=11) zM);have z0:W.cell? ⟨B11,0,none⟩=some (r0):=hM.r.cell 0;have z1:W.cell? ⟨B11,1,none⟩=some (r1):=hM.r.cell 1;have z2:W.cell? ⟨B11,2,none⟩=some (r2):=hM.r.cell 2;go_simp;exact hK (.agg #[r0,r1,r2]) W rfl (zR _ _) hM
  |2,_,ho =>
   exact ybb
  |3,_,ho =>
   exact ygz
  |4,_,ho =>
   cases ho;have f38:=a0a (v:= .pointer (some ⟨BQ,0,none⟩)) (a0b hD 3 38 zM rfl rfl);exact ydy
  |5,_,ho =>
   cases ho;have f37:=a0a (v:= .agg #[d9,k9,l9]) (a0b hD 2 37 zM rfl rfl);have f39:=a0a (v:= .agg #[.int .i64 zz0,.int .i64 zz1,.int .i64 zz2]) (a0b hD 4 39 zM rfl rfl);exact ykm
  |6,_,ho =>
   exact ybb
  |7,_,ho =>
   cases ho;have f3:=a0a (v:= .pointer (some ⟨BQ,0,none⟩)) (hA.at_ (k:=3) zM);go_simp;exact hK (.pointer (some ⟨BQ,3,none⟩)) W rfl (zR _ _) hM
  |8,_,ho =>
   cases ho;have f42:=a0a (v:= .pointer (some ⟨BQ,3,none⟩)) (a0b hD 7 42 zM rfl rfl);have z0:W.cell? ⟨BQ,3,none⟩=some (.int .i64 zz3):=hM.q.cell 3;have z1:W.cell? ⟨BQ,4,none⟩=some (.int .i64 zz4):=hM.q.cell 4;have z2:W.cell? ⟨BQ,5,none⟩=some (.int .i64 zz5):=hM.q.cell 5;go_simp;exact hK (.agg #[.int .i64 zz3,.int .i64 zz4,.int .i64 zz5]) W rfl (zR _ _) hM
  |9,_,ho =>
   cases ho;have f41:=a0a (v:= .agg #[d9,k9,l9]) (a0b hD 6 41 zM rfl rfl);have f43:=a0a (v:= .agg #[.int .i64 zz3,.int .i64 zz4,.int .i64 zz5]) (a0b hD 8 43 zM rfl rfl);go_simp;refine(b8g 0 oM d9 k9 l9 zz3 zz4 zz5 pl W hM.pi Cd).mono ?_;exact yem
  |10,_,ho =>
   exact ybb
  |11,_,ho =>
   exact ygz
  |12,_,ho =>
   cases ho;have f46:=a0a (v:= .pointer (some ⟨BQ,0,none⟩)) (a0b hD 11 46 zM rfl rfl);exact ydy
  |13,_,ho =>
   cases ho;have f45:=a0a (v:= .agg #[d9,k9,l9]) (a0b hD 10 45 zM rfl rfl);have f47:=a0a (v:= .agg #[.int .i64 zz0,.int .i64 zz1,.int .i64 zz2]) (a0b hD 12 47 zM rfl rfl);exact ykm
  |14,_,ho =>
   cases ho;have f3:=a0a (v:= .pointer (some ⟨BQ,0,none⟩)) (hA.at_ (k:=3) zM);go_simp;exact hK (.pointer (some ⟨BQ,6,none⟩)) W rfl (zR _ _) hM
  |15,_,ho =>
   cases ho;have f49:=a0a (v:= .pointer (some ⟨BQ,6,none⟩)) (a0b hD 14 49 zM rfl rfl);have z0:W.cell? ⟨BQ,6,none⟩=some (.int .i64 zz6):=hM.q.cell 6;have z1:W.cell? ⟨BQ,7,none⟩=some (.int .i64 zz7):=hM.q.cell 7;have z2:W.cell? ⟨BQ,8,none⟩=some (.int .i64 zz8):=hM.q.cell 8;go_simp;exact hK (.agg #[.int .i64 zz6,.int .i64 zz7,.int .i64 zz8]) W rfl (zR _ _) hM
  |16,_,ho =>
   cases ho;have f48:=a0b hD 13 48 zM rfl rfl;have f50:=a0a (v:= .agg #[.int .i64 zz6,.int .i64 zz7,.int .i64 zz8]) (a0b hD 15 50 zM rfl rfl);obtain⟨x0,x1,x2,xp,a1,a2,a3⟩:=f48;have VA:=a0a a1;go_simp;refine(b8g 1 oM x0 x1 x2 zz6 zz7 zz8 xp W a2 a3).mono ?_;exact yem
  |17,_,ho =>
   cases ho;have f35:=a0a (v:= .agg #[d9,k9,l9]) (a0b hD 0 35 zM rfl rfl);have f36:=a0a (v:= .agg #[r0,r1,r2]) (a0b hD 1 36 zM rfl rfl);have f40:=a0b hD 5 40 zM rfl rfl;have f44:=a0b hD 9 44 zM rfl rfl;have f51:=a0b hD 16 51 zM rfl rfl;obtain⟨x0,x1,x2,xp,a1,a2,a3⟩:=f40;obtain⟨y0,y1,y2,yp,b1,b2,b3⟩:=f44;obtain⟨u0,u1,u2,up,c1,c2,c3⟩:=f51;have LV:=a0a a1;have LW:=a0a b1;have H6:=a0a c1;go_simp;exact hK (.slice (some ⟨W.heap.size,0,none⟩) 5 5) _ ⟨_,rfl,Pl5.new ⟨_,_,_,_,rfl,hM.pi,Cd⟩ hM.ri ⟨_,_,_,_,rfl,a2,a3⟩ ⟨_,_,_,_,rfl,b2,b3⟩ ⟨_,_,_,_,rfl,c2,c3⟩⟩ ((zR _ _).alloc (yR _) _) (hM.up ((zR _ _).alloc (yR _) _))
  |i+18,hi,_=>exact absurd hi oM
 case tail5 =>
  intro bb W6 hM hA ah;obtain⟨L,h52,gD⟩:=(show ∃L,bb.eval (.tmp 52)= .slice (some ⟨L,0,none⟩) 5 5/\Pl5 L W6 from ah 17 oM _ _ rfl rfl);have aC:=hA.frame (rT 35 (rF 18 (rT 37 ([])))) _ rfl zM;clear ah hA;obtain⟨f,hf⟩:=zDt bb;have vW:f 52= .slice (some ⟨L,0,none⟩) 5 5:=by rw[<-hf,<-h52];rfl
  rw[hf]at aC;clear hf h52;subst aC;simp only[rT,rF,a2d,vW,Nat.reduceAdd];clear vW;simp only[zU];have uH:=rO.trans (hM.bel.mono rO.size);have lu:=fw.trans (uH.mono fw.size);have K5:=hM.p;have E7:=hM.pi;clear hM K4 rO;go_wp2_with fail;go_loopw [55] (λi wr=>∃k:Nat,k<=5/\i= .int .i64 (k:Nat)/\Below W6.heap.size W6 wr) (λi _=>5-(intOf i).toNat)
  case atStart=>exact⟨0,oM,rfl,zR _ _⟩
  case round =>
   obtain⟨k,Km,rfl,aL⟩:=hrel;have zL:=uH.trans (aL.mono uH.size);by_cases ag:k<5
   ·have aA:(k:Int)<5:=oM
    obtain⟨dx,kx,lx,⟨Ti,tD,tE⟩,xd,xk,xl,xp,pt,Gx,E8⟩:=(gD.up aL).at_ k ag
    cases pt;obtain⟨VB,VC,VD,Tj,⟨wq,-⟩,⟨wu,-⟩,wz,-⟩:=Gx.ex
    cases Tj;obtain⟨yC,E4,rfl,-⟩:=wz.form;obtain⟨E0,E1,rfl,-⟩:=wq.form;obtain⟨E2,E3,rfl,-⟩:=wu.form;clear wq wu wz;go_upto_region 9 with fail;obtain⟨dx,rV⟩:=zE (Value.slice E0 xp.dots.length E1);obtain⟨kx,iW⟩:=zE (Value.slice E2 xp.keys.length E3);obtain⟨lx,mN⟩:=zE (Value.slice yC xp.left.length E4);rw[rV,iW,mN]at Gx ⊢;have uI:=Blk.new wr #[dx,kx,lx] 45;have eh:Below wr.heap.size wr (wr.alloc (.cells #[dx,kx,lx] 45)):=(zR _ _).alloc (yR _) _;clear rV iW mN;obtain⟨W8,jz⟩:=zE (wr.alloc (.cells #[dx,kx,lx] 45));obtain⟨gy,oX⟩:=zE wr.heap.size;rw[jz]at uI eh ⊢;have o7:=zL.trans (eh.mono zL.size);have rP:=aL.trans (eh.mono aL.size);have nb:=Gx.up eh;have zN:=E7.up rP;have NM:=K5.below rP K5.lt;rw[oX]at uI ⊢;obtain⟨⟨BC,BD,BF,BG⟩,⟨Bv,By,Bz,BB⟩,eE,eF,eG,eH,eI,eJ⟩:=na.out W8 o7;obtain⟨Bj,Bn,Bo⟩:=zN3 uI;obtain⟨dL,e8,ff⟩:=zN3 NM;have K6:=vU.od.up o7;have K7:=EZ.up o7;have jc:=λX (hX:Below W8.heap.size W8 X)=>eW X (o7.trans (hX.mono o7.size))
    have qY:=λX (hX:Below W8.heap.size W8 X)=>d3j s KX KY (.slice ea ne ec) (.slice fa nf fc) (.slice wa nw wc) (.slice pa l.length pc) dx kx lx l ws xp 2 oM X (K6.up hX) (λY hY=>jc Y (hX.trans (hY.mono hX.size))) (nb.up hX) E8
    have K8:=λX (hX:Below W8.heap.size W8 X)=>c6i s (.slice ea ne ec) (.slice fa nf fc) (.slice wa nw wc) (.slice pa l.length pc) dx kx lx l ws xp 2 oM X (K6.up hX) (nb.up hX) E8
    have rZ:=λX (hX:Below W8.heap.size W8 X)=>d3j s KX KY (.slice a1 m1 d1) (.slice a2 m2 d2) (.slice a3 m3 d3) (.slice a4 l2.length d4) dx kx lx l2 uv xp 2 oM X (K7.up hX) (λY hY=>jc Y (hX.trans (hY.mono hX.size))) (nb.up hX) E8
    have K9:=λX (hX:Below W8.heap.size W8 X)=>c6i s (.slice a1 m1 d1) (.slice a2 m2 d2) (.slice a3 m3 d3) (.slice a4 l2.length d4) dx kx lx l2 uv xp 2 oM X (K7.up hX) (nb.up hX) E8
    have ny:=λX (hX:Below W8.heap.size W8 X)=>b0l _ _ pl xp X (zN.up hX) (nb.up hX)
    have qp:=λX (hX:Below W8.heap.size W8 X)=>d3h _ _ pl xp X (zN.up hX) (nb.up hX)
    obtain⟨c1,cj⟩:=zE (ckZ s ws l xp);obtain⟨c2,bK⟩:=zE (ckZ s uv l2 xp);obtain⟨sb,ni⟩:=zE (c0i pl xp);simp only[cj]at qY K8;simp only[bK]at rZ K9;simp only[ni]at ny qp;clear cj bK ni jz oX Gx nb zN jc K6 K7 uI NM Ti tD tE eh;refine Go.wp_region_relg 28 zM zM (λ_ W=>Below W8.heap.size W8 W) (λw w'=>Below w.heap.size w w') (FCk9 n2 B9 gy ea fa wa pa a1 a2 a3 a4 ne ec nf fc nw wc pc m1 d1 m2 d2 m3 d3 d4 l l2 s d9 k9 l9 dx kx lx c1 c2 sb) (λ_ _ _ _ h g=>h.kept g) (zR _ _).drew ?step9 ?tail9
    case step9 =>
     clear na eW vU EZ fw lu gD K5 E7 Cd E8 uH zL o7 rP aL;intro i o hi ho c bb W hc hM hA hD K hK;match i,hi,ho with
     |0,_,ho =>
      exact ycc
     |1,_,ho =>
      cases ho;exact yal
     |2,_,ho =>
      cases ho;exact yan
     |3,_,ho =>
      cases ho;have f59:=a0a (v:= .agg #[.slice ea ne ec,.slice fa nf fc,.slice wa nw wc,.slice pa l.length pc]) (a0b hD 0 59 zM rfl rfl);have f60:=a0a (v:= .agg #[.int .i64 s.ax,.int .i64 s.ay,.int .i64 s.st,.int .i64 s.w,.int .i64 s.h,.int .i64 s.g]) (a0b hD 1 60 zM rfl rfl);have f61:=a0a (v:= .agg #[dx,kx,lx]) (a0b hD 2 61 zM rfl rfl);go_simp;refine(qY W hM).mono ?_;exact yjg
     |4,_,ho =>
      exact ycc
     |5,_,ho =>
      cases ho;exact yal
     |6,_,ho =>
      cases ho;exact yan
     |7,_,ho =>
      cases ho;have f63:=a0a (v:= .agg #[.slice ea ne ec,.slice fa nf fc,.slice wa nw wc,.slice pa l.length pc]) (a0b hD 4 63 zM rfl rfl);have f64:=a0a (v:= .agg #[.int .i64 s.ax,.int .i64 s.ay,.int .i64 s.st,.int .i64 s.w,.int .i64 s.h,.int .i64 s.g]) (a0b hD 5 64 zM rfl rfl);have f65:=a0a (v:= .agg #[dx,kx,lx]) (a0b hD 6 65 zM rfl rfl);go_simp;refine(K8 W hM).mono ?_;exact yjg
     |8,_,ho =>
      cases ho;have f62:=a0a (v:= .int .i64 c1) (a0b hD 3 62 zM rfl rfl);have f66:=a0a (v:= .int .i64 c1) (a0b hD 7 66 zM rfl rfl);exact yfb
     |9,_,ho =>
      cases ho;have f67:=a0a (v:= .bool false) (a0b hD 8 67 zM rfl rfl);exact yfb
     |10,_,ho =>
      exact ybk
     |11,_,ho =>
      exact yga
     |12,_,ho =>
      exact ygb
     |13,_,ho =>
      cases ho;have Aj:bb.tmps[68]? =some (.bool false):=a3l (v:= .bool false) (a0b hD 9 68 zM rfl rfl) (by rw[hA.size];exact Nat.le_of_ble_eq_true zM);have f69:=a0a (v:= .agg #[.slice a1 m1 d1,.slice a2 m2 d2,.slice a3 m3 d3,.slice a4 l2.length d4]) (a0b hD 10 69 zM rfl rfl);have f70:=a0a (v:= .agg #[.int .i64 s.ax,.int .i64 s.ay,.int .i64 s.st,.int .i64 s.w,.int .i64 s.h,.int .i64 s.g]) (a0b hD 11 70 zM rfl rfl);have f71:=a0a (v:= .agg #[dx,kx,lx]) (a0b hD 12 71 zM rfl rfl);go_simp;refine(rZ W hM).mono ?_;exact yjh
     |14,_,ho =>
      exact ybk
     |15,_,ho =>
      exact yga
     |16,_,ho =>
      exact ygb
     |17,_,ho =>
      cases ho;have Aj:bb.tmps[68]? =some (.bool false):=a3l (v:= .bool false) (a0b hD 9 68 zM rfl rfl) (by rw[hA.size];exact Nat.le_of_ble_eq_true zM);have f73:=a0a (v:= .agg #[.slice a1 m1 d1,.slice a2 m2 d2,.slice a3 m3 d3,.slice a4 l2.length d4]) (a0b hD 14 73 zM rfl rfl);have f74:=a0a (v:= .agg #[.int .i64 s.ax,.int .i64 s.ay,.int .i64 s.st,.int .i64 s.w,.int .i64 s.h,.int .i64 s.g]) (a0b hD 15 74 zM rfl rfl);have f75:=a0a (v:= .agg #[dx,kx,lx]) (a0b hD 16 75 zM rfl rfl);go_simp;refine(K9 W hM).mono ?_;exact yjh
     |18,_,ho =>
      cases ho;have Aj:bb.tmps[68]? =some (.bool false):=a3l (v:= .bool false) (a0b hD 9 68 zM rfl rfl) (by rw[hA.size];exact Nat.le_of_ble_eq_true zM);have f72:=a0a (v:= .int .i64 c2) (a0b hD 13 72 zM rfl rfl);have f76:=a0a (v:= .int .i64 c2) (a0b hD 17 76 zM rfl rfl);exact yfb
     |19,_,ho =>
      cases ho;have f68:=a0a (v:= .bool false) (a0b hD 9 68 zM rfl rfl);have f77:=a0a (v:= .bool false) (a0b hD 18 77 zM rfl rfl);exact yfb
     |20,_,ho =>
      cases ho;have f78:=a0a (v:= .bool false) (a0b hD 19 78 zM rfl rfl);exact yfb
     |21,_,ho =>
      exact ycf
     |22,_,ho =>
      exact yfy
     |23,_,ho =>
      cases ho;have Fi:bb.tmps[79]? =some (.bool false):=a3l (v:= .bool false) (a0b hD 20 79 zM rfl rfl) (by rw[hA.size];exact Nat.le_of_ble_eq_true zM);have f80:=a0a (v:= .agg #[d9,k9,l9]) (a0b hD 21 80 zM rfl rfl);have f81:=a0a (v:= .agg #[dx,kx,lx]) (a0b hD 22 81 zM rfl rfl);go_simp;refine(ny W hM).mono ?_;exact yjl
     |24,_,ho =>
      exact ycf
     |25,_,ho =>
      exact yfy
     |26,_,ho =>
      cases ho;have Fi:bb.tmps[79]? =some (.bool false):=a3l (v:= .bool false) (a0b hD 20 79 zM rfl rfl) (by rw[hA.size];exact Nat.le_of_ble_eq_true zM);have f83:=a0a (v:= .agg #[d9,k9,l9]) (a0b hD 24 83 zM rfl rfl);have f84:=a0a (v:= .agg #[dx,kx,lx]) (a0b hD 25 84 zM rfl rfl);go_simp;refine(qp W hM).mono ?_;exact yjl
     |27,_,ho =>
      cases ho;have Fi:bb.tmps[79]? =some (.bool false):=a3l (v:= .bool false) (a0b hD 20 79 zM rfl rfl) (by rw[hA.size];exact Nat.le_of_ble_eq_true zM);have f82:=a0a (v:= .bool sb) (a0b hD 23 82 zM rfl rfl);have f85:=a0a (v:= .bool sb) (a0b hD 26 85 zM rfl rfl);exact yfb
     |i+28,hi,_=>exact absurd hi oM
    case tail9 =>
     intro bb W9 zg hA ah;have h79:bb.eval (.tmp 79)= .bool false:=ah 20 oM _ _ rfl rfl;have h86:bb.eval (.tmp 86)= .bool false:=ah 27 oM _ _ rfl rfl;have aC:=hA.frame (rT 59 (rF 28 (rT 3 ([])))) _ rfl zM;clear ah hA;obtain⟨f,hf⟩:=zDt bb;have NN:f 79= .bool false:=by rw[<-hf,<-h79];rfl
     have NO:f 86= .bool false:=by rw[<-hf,<-h86];rfl
     rw[hf]at aC;clear hf h79 h86;subst aC;simp only[rT,rF,a2d,NN,NO,Nat.reduceAdd];clear NN NO;simp only[zU];clear BC BD BF BG Bv By Bz BB eE eF eG eH eI eJ Bj Bn Bo dL e8 ff qY K8 rZ K9 ny qp;go_wp2_with fail;go_roundw
     case rel=>exact⟨k+1,oM,by go_num,rP.trans (zg.mono rP.size)⟩
     case measure=>exact yaz
   ·obtain rfl:k=5:=oM
    go_wp2_with fail;go_ret;exact⟨rfl,lu.trans (aL.mono lu.size)⟩
end
end Go.Proofs.YtfocdbjceedagaaGreatDoor
