/-
  Parts.
-/
import Derived.Test.YtfocdbjceedagaaGreatDoorMbl
set_option linter.unusedVariables false
set_option linter.unusedSimpArgs false
set_option maxHeartbeats 8000000
set_option maxRecDepth 100000
namespace Go.Proofs.YtfocdbjceedagaaGreatDoor
open Tryz
section
open Go Go.RowKit Go.Shelf Go.Lib
attribute [local go_sem] Oper.semAt_some
attribute [local go_sem ↓] Go.wp_at_zero Go.wp_at_succ
variable{B15 i:Nat}{v:Value}{w w':World}
theorem d1f (s:Sh)(ws:List Wy)(l:List Pc)(hl:l.length<=100):(c0r s ws l).dots.length<=100000:=by
 unfold c0r;by_cases h:a3c s l.length=0
 ·rw[if_pos h]
  obtain⟨hs,h80⟩:=a7y h;obtain⟨h1,-,-⟩:=a8t s ws (a0t l);have h2:=a7l (a4h hs) ws;have h3:(a0t l).length=l.length:=(a1c l).length_eq;omega
 ·rw[if_neg h]
  simp
def FMk (B12 B13 B15:Nat)(cd:Int)(ea fa wa pa:Option Addr)(ne ec nf fc nw wc pc:Nat)(l:List Pc)(d13 k13 l13 d15 k15 l15:Value)(ids:List Int)(i:Nat)(v:Value)(w:World):Prop :=
 match i with
 |0=>v= .int .i64 cd
 |1=>v= .int .i64 cd
 |2=>v= .bool false
 |3=>v= .bool false
 |4=>v= .agg #[d13,k13,l13]
 |5=>v= .agg #[d15,k15,l15]
 |6=>v= .bool true
 |7=>v= .bool false
 |8=>v= .bool false
 |9=>v= .bool false
 |10=>v= .agg #[.slice ea ne ec,.slice fa nf fc,.slice wa nw wc,.slice pa l.length pc]
 |11=>∃u,v=u/\Lst inE w.heap.size w u ids/\Frm u ids.length
 |12=>v= .agg #[.slice ea ne ec,.slice fa nf fc,.slice wa nw wc,.slice pa l.length pc]
 |13=>∃u,v=u/\Lst inE w.heap.size w u ids/\Frm u ids.length
 |14=>v= .bool true
 |15=>v= .bool false
 |_=>False
theorem FMk.kept {B12 B13:Nat}{cd:Int}{ea fa wa pa:Option Addr}{ne ec nf fc nw wc pc:Nat}{l:List Pc}{d13 k13 l13 d15 k15 l15:Value}{ids:List Int}(h:FMk B12 B13 B15 cd ea fa wa pa ne ec nf fc nw wc pc l d13 k13 l13 d15 k15 l15 ids i v w)(hg:Below w.heap.size w w'):FMk B12 B13 B15 cd ea fa wa pa ne ec nf fc nw wc pc l d13 k13 l13 d15 k15 l15 ids i v w':=by
 unfold FMk at *;split at h
 all_goals first|exact h|(obtain⟨u,h1,h2,h3⟩:=h;exact⟨u,h1,h2.up hg,h3⟩)
def FDd (wr:World)(B15 dg dO dcap jx nD:Nat)(ix nx mx:Int)(y:Dt)(i:Nat)(v:Value)(w:World):Prop :=
 match i with
 |0=>v= .pointer (some ⟨B15,0,none⟩)
 |1=>v= .slice (some ⟨dg,dO,none⟩) nD dcap
 |2=>v= .int .i64 ix
 |3=>v= .int .i64 ix
 |4=>v= .int .i64 nx
 |5=>v= .int .i64 mx
 |6=>v= .pointer (some ⟨B15,0,none⟩)
 |7=>v= .slice (some ⟨dg,dO,none⟩) nD dcap
 |8=>v= .int .i64 (nD:Nat)
 |9=>v= .int .i64 (jx:Nat)
 |10=>v= .pointer (some ⟨dg,dO+jx*4,none⟩)
 |11=>v= .agg #[.int .i64 y.x,.int .i64 y.y,.int .i64 y.k,.int .i64 y.i]
 |12=>∃L,v= .pointer (some ⟨L,0,none⟩)/\Blk w L #[.int .i64 0,.int .i64 0,.int .i64 0,.int .i64 0] 54/\wr.heap.size<=L
 |_=>False
theorem FDd.kept {wr:World}{dg dO dcap jx nD:Nat}{ix nx mx:Int}{y:Dt}(h:FDd wr B15 dg dO dcap jx nD ix nx mx y i v w)(hg:Below w.heap.size w w'):FDd wr B15 dg dO dcap jx nD ix nx mx y i v w':=by
 unfold FDd at *;split at h
 all_goals first|exact h|(obtain⟨L,h1,h2,h3⟩:=h;exact⟨L,h1,h2.below hg h2.lt,h3⟩)
theorem d1g (la:Option Addr)(lcap:Nat)(rows:List (Value×List Int))(q0 q1 q2 b0 b1 b2 b3:Int)(raw:Sh)(ix iy:Int)(fq0:fits q0)(fq1:fits q1)(fq2:fits q2)(h0:0<=b0/\b0<=255)(h1:0<=b1/\b1<=255)(h2:0<=b2/\b2<=255)(h3:0<=b3/\b3<=255)(fx:fits raw.ax)(fy:fits raw.ay)(fix:fits ix)(fiy:fits iy)(w:World)(hM:Mat w.heap.size w (.slice la rows.length lcap) rows)(hPow:Pow w):
 Calls prog 3 #[.agg (b0u (.slice la rows.length lcap) q0 q1 q2 b0 b1 b2 b3 raw),.int .i64 ix,.int .i64 iy] w λe w'=>e= .returned (.bool true)/\Below w.heap.size w w':=by
 have hsan:=λ(W:World) (hb:Below w.heap.size w W)=>d4f W (λX h=>hPow.below (hb.trans (h.mono hb.size)))
 have hmad:=λ(W:World) (hb:Below w.heap.size w W)=>d7p la lcap rows q0 q1 q2 b0 b1 b2 b3 raw fq0 fq1 fq2 h0 h1 h2 h3 W ((hM.below hb).mono hb.size)
 obtain⟨fs0,fs1⟩:=c3s (a:=b0) (b:=b1) (c:=b2) (d:=b3) fx fy;go_enter func3,ntmps3;go_upto_region 1 with fail;have kC:=Blk.new w (b0u (.slice la rows.length lcap) q0 q1 q2 b0 b1 b2 b3 raw) 30;have hb0:Below w.heap.size w (w.alloc (.cells (b0u (.slice la rows.length lcap) q0 q1 q2 b0 b1 b2 b3 raw) 30)):=(zR _ _).alloc (yR _) _;obtain⟨W0,hW0⟩:=zE (w.alloc (.cells (b0u (.slice la rows.length lcap) q0 q1 q2 b0 b1 b2 b3 raw) 30));rw[hW0]at kC hb0 ⊢;clear hW0;go_upto_region 2 with(first
  |(go_at_call 8;(with_reducible refine(hsan _ hb0).mono ?_);rintro e w1⟨rfl,hb1⟩))
 have hbw1:=hb0.trans (hb1.mono hb0.size);have kC1:=kC.below hb1 kC.lt;clear kC hb1 hsan hb0;obtain⟨c0,c1,c2,c3,c4,c5,c6,c7,c8,c9,c10,c11,c12,c13⟩:=e0z kC1;obtain⟨s,hsh⟩:=zE (a6s b0 b1 b2 b3 raw);rw[hsh]at hmad fs0 fs1;clear hsh;go_upto_region 3 with(first
  |(go_at_call 9;(with_reducible refine(hmad _ hbw1).mono ?_);rintro e w2⟨ea,ne,ec,fa,nf,fc,wa,nw,wc,pa,pc,a1,m1,d1,a2,m2,d2,a3,m3,d3,a4,d4,l,ws,l2,ws2,rfl,hMo,hMd,hb2⟩))
 clear c0 c1 c2 c3 c4 c5 c6 c7 c8 c9 c10 c11 c12 c13 kC1 hmad;have km:=((Blk.new w2 #[.slice ea ne ec,.slice fa nf fc,.slice wa nw wc,.slice pa l.length pc] 37).alloc (.cells #[.slice a1 m1 d1,.slice a2 m2 d2,.slice a3 m3 d3,.slice a4 l2.length d4] 37)).alloc (.cells #[.int .i64 s.ax,.int .i64 s.ay,.int .i64 s.st,.int .i64 s.w,.int .i64 s.h,.int .i64 s.g] 28);have ko:=(Blk.new (w2.alloc (.cells #[.slice ea ne ec,.slice fa nf fc,.slice wa nw wc,.slice pa l.length pc] 37)) #[.slice a1 m1 d1,.slice a2 m2 d2,.slice a3 m3 d3,.slice a4 l2.length d4] 37).alloc (.cells #[.int .i64 s.ax,.int .i64 s.ay,.int .i64 s.st,.int .i64 s.w,.int .i64 s.h,.int .i64 s.g] 28);have ks:=Blk.new ((w2.alloc (.cells #[.slice ea ne ec,.slice fa nf fc,.slice wa nw wc,.slice pa l.length pc] 37)).alloc (.cells #[.slice a1 m1 d1,.slice a2 m2 d2,.slice a3 m3 d3,.slice a4 l2.length d4] 37)) #[.int .i64 s.ax,.int .i64 s.ay,.int .i64 s.st,.int .i64 s.w,.int .i64 s.h,.int .i64 s.g] 28;obtain⟨W3,hW3⟩:=zE (((w2.alloc (.cells #[.slice ea ne ec,.slice fa nf fc,.slice wa nw wc,.slice pa l.length pc] 37)).alloc (.cells #[.slice a1 m1 d1,.slice a2 m2 d2,.slice a3 m3 d3,.slice a4 l2.length d4] 37)).alloc (.cells #[.int .i64 s.ax,.int .i64 s.ay,.int .i64 s.st,.int .i64 s.w,.int .i64 s.h,.int .i64 s.g] 28));have hb23:Below w2.heap.size w2 W3:=by rw[<-hW3];exact(((zR _ _).alloc (yR _) _).alloc vM _).alloc uM _
 simp only[World.size_alloc]at ks ko;rw[hW3]at km ko ks ⊢;have hM3:=hMo.up hb23;have hO3:=hMd.up hb23;have hb13:=hb2.trans (hb23.mono hb2.size);have hbw3:=hbw1.trans (hb13.mono hbw1.size);obtain⟨n2,hn2⟩:=zE w2.heap.size;rw[hn2]at km ko ks ⊢;clear hW3 hn2 hb23 hMo hMd hb2 hbw1 hM hb13;have hP3:∀X,Below W3.heap.size W3 X->Pow X:=λX h=>hPow.below (hbw3.trans (h.mono hbw3.size))
 clear hPow
 -- the boxes, wherever
 have hbox:∀X,Below W3.heap.size W3 X->(X.cell? ⟨n2,0,none⟩=some (.slice ea ne ec)/\X.cell? ⟨n2,1,none⟩=some (.slice fa nf fc)/\X.cell? ⟨n2,2,none⟩=some (.slice wa nw wc)/\X.cell? ⟨n2,3,none⟩=some (.slice pa l.length pc))/\(X.cell? ⟨n2+1,0,none⟩=some (.slice a1 m1 d1)/\X.cell? ⟨n2+1,1,none⟩=some (.slice a2 m2 d2)/\X.cell? ⟨n2+1,2,none⟩=some (.slice a3 m3 d3)/\X.cell? ⟨n2+1,3,none⟩=some (.slice a4 l2.length d4))/\(X.cell? ⟨n2+1+1,0,none⟩=some (.int .i64 s.ax)/\X.cell? ⟨n2+1+1,1,none⟩=some (.int .i64 s.ay)/\X.cell? ⟨n2+1+1,2,none⟩=some (.int .i64 s.st)/\X.cell? ⟨n2+1+1,3,none⟩=some (.int .i64 s.w)/\X.cell? ⟨n2+1+1,4,none⟩=some (.int .i64 s.h)/\X.cell? ⟨n2+1+1,5,none⟩=some (.int .i64 s.g)):=λX h=>by
  have k1:=km.below h km.lt;have k2:=ko.below h ko.lt;have k3:=ks.below h ks.lt;exact⟨⟨k1.cell 0,k1.cell 1,k1.cell 2,k1.cell 3⟩,⟨k2.cell 0,k2.cell 1,k2.cell 2,k2.cell 3⟩,k3.cell 0,k3.cell 1,k3.cell 2,k3.cell 3,k3.cell 4,k3.cell 5⟩
 obtain⟨⟨m0,m1_,m2_,m3_⟩,⟨o0,o1,o2,o3⟩,s0,s1,s2,s3,s4,s5⟩:=hbox W3 (zR _ _);replace hbox:=Lib.hid hbox;clear km ko ks
 -- both maps in a block
 have kL:=Blk.new W3 #[.slice ea ne ec,.slice fa nf fc,.slice wa nw wc,.slice pa l.length pc,.slice a1 m1 d1,.slice a2 m2 d2,.slice a3 m3 d3,.slice a4 l2.length d4] 37;have hbL:Below W3.heap.size W3 (W3.alloc (.cells #[.slice ea ne ec,.slice fa nf fc,.slice wa nw wc,.slice pa l.length pc,.slice a1 m1 d1,.slice a2 m2 d2,.slice a3 m3 d3,.slice a4 l2.length d4] 37)):=(zR _ _).alloc (yR _) _;go_wp2_with fail;obtain⟨W4,hW4⟩:=zE (W3.alloc (.cells #[.slice ea ne ec,.slice fa nf fc,.slice wa nw wc,.slice pa l.length pc,.slice a1 m1 d1,.slice a2 m2 d2,.slice a3 m3 d3,.slice a4 l2.length d4] 37));rw[hW4]at kL hbL ⊢;obtain⟨BL,hBL⟩:=zE W3.heap.size;rw[hBL]at kL ⊢;have hz:∀(X:World),Blk X BL #[.slice ea ne ec,.slice fa nf fc,.slice wa nw wc,.slice pa l.length pc,.slice a1 m1 d1,.slice a2 m2 d2,.slice a3 m3 d3,.slice a4 l2.length d4] 37->∀k,k<2->∃ea ne ec fa nf fc wa nw wc pa pc l ws,(X.cell? ⟨BL,k*4,none⟩=some (.slice ea ne ec)/\X.cell? ⟨BL,k*4+1,none⟩=some (.slice fa nf fc)/\X.cell? ⟨BL,k*4+2,none⟩=some (.slice wa nw wc)/\X.cell? ⟨BL,k*4+3,none⟩=some (.slice pa l.length pc))/\MapOd W3 (.slice wa nw wc) (.slice pa l.length pc) l ws:=λX hX k hk=>by
  match k,hk with
  |0,_=>exact⟨_,_,_,_,_,_,_,_,_,_,_,l,ws,⟨hX.cell 0,hX.cell 1,hX.cell 2,hX.cell 3⟩,hM3.od⟩
  |1,_=>exact⟨_,_,_,_,_,_,_,_,_,_,_,l2,ws2,⟨hX.cell 4,hX.cell 5,hX.cell 6,hX.cell 7⟩,hO3⟩
  |k+2,h=>exact absurd h oM
 clear hW4 hBL m0 m1_ m2_ m3_ o0 o1 o2 o3 s0 s1 s2 s3 s4 s5 hM3 hO3;have hbw4:=hbw3.trans (hbL.mono hbw3.size);go_loopw [36] (λi wr=>∃k:Nat,k<=2/\i= .int .i64 (k:Nat)/\Below W4.heap.size W4 wr) (λi _=>2-(intOf i).toNat)
 case atStart=>exact⟨0,oM,rfl,zR _ _⟩
 case round =>
  obtain⟨k,hk,rfl,hbr⟩:=hrel;by_cases hlt:k<2
  ·have hltI:(k:Int)<2:=oM
   obtain⟨ea,ne,ec,fa,nf,fc,wa,nw,wc,pa,pc,l,ws,⟨c0,c1,c2,c3⟩,hOd⟩:=hz wr (kL.below hbr kL.lt) k hlt;have hb3r:=hbL.trans (hbr.mono hbL.size);go_upto_region 6 with fail;have k12:=Blk.new wr #[.slice ea ne ec,.slice fa nf fc,.slice wa nw wc,.slice pa l.length pc] 37;have hbA:Below wr.heap.size wr (wr.alloc (.cells #[.slice ea ne ec,.slice fa nf fc,.slice wa nw wc,.slice pa l.length pc] 37)):=(zR _ _).alloc (yR _) _;obtain⟨W5,hW5⟩:=zE (wr.alloc (.cells #[.slice ea ne ec,.slice fa nf fc,.slice wa nw wc,.slice pa l.length pc] 37));rw[hW5]at k12 hbA ⊢;obtain⟨B12,hB12⟩:=zE wr.heap.size;rw[hB12]at k12 ⊢;have hb35:=hb3r.trans (hbA.mono hb3r.size);have hb45:=hbr.trans (hbA.mono hbr.size);clear hW5 hB12 hbA c0 c1 c2 c3;have hdl:(c0r s ws l).dots.length<=100000:=d1f s ws l hOd.len;have hMk:=d9c s fs0 fs1 (.slice ea ne ec) (.slice fa nf fc) (.slice wa nw wc) (.slice pa l.length pc) l ws W5 (hOd.up hb35) (λX hX=>hP3 X (hb35.trans (hX.mono hb35.size)));obtain⟨cd,hcd⟩:=zE (a3c s l.length);obtain⟨pl,hpl⟩:=zE (c0r s ws l);rw[hcd,hpl]at hMk;rw[hpl]at hdl;obtain⟨-,-,s0,s1,s2,s3,s4,s5⟩:=hbox.out W5 hb35;obtain⟨m0,m1_,m2_,m3_⟩:=zN4 k12;go_upto_region 7 with(first
    |(go_at_call 10;(with_reducible refine hMk.mono ?_);rintro e w6⟨v,rfl,hPi,hb6⟩
      obtain⟨dv_,kv_,lv_,rfl,⟨hd_,-⟩,⟨hk_,-⟩,hl_,-⟩:=hPi.ex;obtain⟨da_,dc_,rfl,-⟩:=hd_.form;obtain⟨ka_,kc_,rfl,-⟩:=hk_.form;obtain⟨la_,lc_,rfl,-⟩:=hl_.form;clear hd_ hk_ hl_))
   obtain⟨d13,hd9⟩:=zE (Value.slice da_ pl.dots.length dc_);obtain⟨k13,hk9⟩:=zE (Value.slice ka_ pl.keys.length kc_);obtain⟨l13,hl9⟩:=zE (Value.slice la_ pl.left.length lc_);rw[hd9,hk9,hl9]at hPi ⊢;clear hd9 hk9 hl9;have k13b:=Blk.new w6 #[d13,k13,l13] 45;have hbA:Below w6.heap.size w6 (w6.alloc (.cells #[d13,k13,l13] 45)):=(zR _ _).alloc (yR _) _;obtain⟨W6,hW6⟩:=zE (w6.alloc (.cells #[d13,k13,l13] 45));rw[hW6]at k13b hbA ⊢;obtain⟨B13,hB13⟩:=zE w6.heap.size;rw[hB13]at k13b ⊢;have hb56:=hb6.trans (hbA.mono hb6.size);have hb36:=hb35.trans (hb56.mono hb35.size);have hPi6:=hPi.up hbA;have k12b:=k12.below hb56 k12.lt;clear hW6 hB13 hbA hb6 hPi hMk m0 m1_ m2_ m3_ s0 s1 s2 s3 s4 s5 k12;have hMk2:=d7r s (.slice ea ne ec) (.slice fa nf fc) (.slice wa nw wc) (.slice pa l.length pc) l ws W6 (hOd.up hb36);rw[hcd,hpl]at hMk2;obtain⟨-,-,s0,s1,s2,s3,s4,s5⟩:=hbox.out W6 hb36;obtain⟨m0,m1_,m2_,m3_⟩:=zN4 k12b;go_upto_region 8 with(first
    |(go_at_call 11;(with_reducible refine hMk2.mono ?_);rintro e w7⟨v,rfl,hPi7,hb7⟩
      obtain⟨dv_,kv_,lv_,rfl,⟨hd_,-⟩,⟨hk_,-⟩,hl_,-⟩:=hPi7.ex;obtain⟨da2,dc2,rfl,-⟩:=hd_.form;obtain⟨ka2,kc2,rfl,-⟩:=hk_.form;obtain⟨la2,lc2,rfl,-⟩:=hl_.form;clear hd_ hk_ hl_))
   obtain⟨d15,hd9⟩:=zE (Value.slice da2 pl.dots.length dc2);obtain⟨k15,hk9⟩:=zE (Value.slice ka2 pl.keys.length kc2);obtain⟨l15,hl9⟩:=zE (Value.slice la2 pl.left.length lc2);rw[hd9,hk9,hl9]at hPi7 ⊢;clear hd9 hk9 hl9;have k15b:=Blk.new w7 #[d15,k15,l15] 45;have hbA:Below w7.heap.size w7 (w7.alloc (.cells #[d15,k15,l15] 45)):=(zR _ _).alloc (yR _) _;obtain⟨W8,hW8⟩:=zE (w7.alloc (.cells #[d15,k15,l15] 45));rw[hW8]at k15b hbA ⊢;obtain⟨B15,hB15⟩:=zE w7.heap.size;rw[hB15]at k15b ⊢;have hb68:=hb7.trans (hbA.mono hb7.size);have hb38:=hb36.trans (hb68.mono hb36.size);have hb48:=hb45.trans ((hb56.trans (hb68.mono hb56.size)).mono hb45.size);have hPi8:=hPi7.up hbA;have hPa8:=hPi6.up hb68;have k12c:=k12b.below hb68 k12b.lt;have k13c:=k13b.below hb68 k13b.lt;clear hW8 hB15 hbA hb7 hPi7 hMk2 m0 m1_ m2_ m3_ s0 s1 s2 s3 s4 s5 k12b k13b hPi6 hb68 hb56 hb45;have hOd8:=hOd.up hb38;have hOl:=hOd.len;have hSa:=λX (hX:Below W8.heap.size W8 X)=>c7k (a3s d13 k13 l13) (a3s d15 k15 l15) pl X (hPa8.up hX) (hPi8.up hX)
   have hOr:=λX (hX:Below W8.heap.size W8 X)=>b9p (.slice ea ne ec) (.slice fa nf fc) (.slice wa nw wc) (.slice pa l.length pc) l X (hOd8.up hX).p hOd8.frm hOl
   have hRo:=λX (hX:Below W8.heap.size W8 X)=>c7a (.slice ea ne ec) (.slice fa nf fc) (.slice wa nw wc) (.slice pa l.length pc) l X (hOd8.up hX).p hOd8.frm hOl
   have hidl:((a0t l).map Pc.id).length<=100000:=by rw[List.length_map,(a1c l).length_eq];omega
   obtain⟨ids,hids⟩:=zE ((a0t l).map Pc.id);rw[hids]at hidl;simp only[hids]at hOr hRo;obtain⟨h_m0,h_m1,h_m2,h_m3⟩:=zN4 k12c;obtain⟨h_a0,h_a1,h_a2⟩:=zN3 k13c;obtain⟨h_b0,h_b1,h_b2⟩:=zN3 k15b;refine Go.wp_region_relg 16 zM zM (λ_ W=>Below W8.heap.size W8 W) (λw w'=>Below w.heap.size w w') (FMk B12 B13 B15 cd ea fa wa pa ne ec nf fc nw wc pc l d13 k13 l13 d15 k15 l15 ids) (λ_ _ _ _ h g=>h.kept g) (zR _ _).drew ?step8 ?tail8
   case step8 =>
    clear hz hP3 hOd hOd8 hbox hids hcd hpl hPa8 hPi8 kL k12c k13c k15b;intro i o hi ho c bb W hc hM hA hD K hK;match i,hi,ho with
    |0,_,ho =>
     cases ho;have f14:=a0a (v:= .int .i64 cd) (hA.at_ (k:=14) zM);go_simp;exact hK (.int .i64 cd) W rfl (zR _ _) hM
    |1,_,ho =>
     cases ho;have f16:=a0a (v:= .int .i64 cd) (hA.at_ (k:=16) zM);go_simp;exact hK (.int .i64 cd) W rfl (zR _ _) hM
    |2,_,ho =>
     cases ho;have f52:=a0a (v:= .int .i64 cd) (a0c hD 0 52 zM rfl rfl);have f53:=a0a (v:= .int .i64 cd) (a0c hD 1 53 zM rfl rfl);exact yep
    |3,_,ho =>
     cases ho;have f54:=a0a (v:= .bool false) (a0c hD 2 54 zM rfl rfl);exact yep
    |4,_,ho =>
     cases ho;have e55:bb.tmps[55]? =some (.bool false):=a3x (v:= .bool false) (a0c hD 3 55 zM rfl rfl) (by rw[hA.size];exact Nat.le_of_ble_eq_true zM);have f13:=a0a (v:= .pointer (some ⟨B13,0,none⟩)) (hA.at_ (k:=13) zM);have z0:W.cell? ⟨B13,0,none⟩=some (d13):=a0l hM h_a0;have z1:W.cell? ⟨B13,1,none⟩=some (k13):=a0l hM h_a1;have z2:W.cell? ⟨B13,2,none⟩=some (l13):=a0l hM h_a2;go_simp;exact hK (.agg #[d13,k13,l13]) W rfl (zR _ _) hM
    |5,_,ho =>
     cases ho;have e55:bb.tmps[55]? =some (.bool false):=a3x (v:= .bool false) (a0c hD 3 55 zM rfl rfl) (by rw[hA.size];exact Nat.le_of_ble_eq_true zM);have f15:=a0a (v:= .pointer (some ⟨B15,0,none⟩)) (hA.at_ (k:=15) zM);have z0:W.cell? ⟨B15,0,none⟩=some (d15):=a0l hM h_b0;have z1:W.cell? ⟨B15,1,none⟩=some (k15):=a0l hM h_b1;have z2:W.cell? ⟨B15,2,none⟩=some (l15):=a0l hM h_b2;go_simp;exact hK (.agg #[d15,k15,l15]) W rfl (zR _ _) hM
    |6,_,ho =>
     cases ho;have e55:bb.tmps[55]? =some (.bool false):=a3x (v:= .bool false) (a0c hD 3 55 zM rfl rfl) (by rw[hA.size];exact Nat.le_of_ble_eq_true zM);have f56:=a0a (v:= .agg #[d13,k13,l13]) (a0c hD 4 56 zM rfl rfl);have f57:=a0a (v:= .agg #[d15,k15,l15]) (a0c hD 5 57 zM rfl rfl);go_simp;refine(hSa W hM).mono ?_;exact yin
    |7,_,ho =>
     cases ho;have e55:bb.tmps[55]? =some (.bool false):=a3x (v:= .bool false) (a0c hD 3 55 zM rfl rfl) (by rw[hA.size];exact Nat.le_of_ble_eq_true zM);have f58:=a0a (v:= .bool true) (a0c hD 6 58 zM rfl rfl);exact yep
    |8,_,ho =>
     cases ho;have f55:=a0a (v:= .bool false) (a0c hD 3 55 zM rfl rfl);have f59:=a0a (v:= .bool false) (a0c hD 7 59 zM rfl rfl);exact yep
    |9,_,ho =>
     cases ho;have f60:=a0a (v:= .bool false) (a0c hD 8 60 zM rfl rfl);exact yep
    |10,_,ho =>
     exact ybd
    |11,_,ho =>
     cases ho;have e61:bb.tmps[61]? =some (.bool false):=a3x (v:= .bool false) (a0c hD 9 61 zM rfl rfl) (by rw[hA.size];exact Nat.le_of_ble_eq_true zM);have f62:=a0a (v:= .agg #[.slice ea ne ec,.slice fa nf fc,.slice wa nw wc,.slice pa l.length pc]) (a0c hD 10 62 zM rfl rfl);go_simp;refine(hOr W hM).mono ?_;exact yid
    |12,_,ho =>
     exact ybd
    |13,_,ho =>
     cases ho;have e61:bb.tmps[61]? =some (.bool false):=a3x (v:= .bool false) (a0c hD 9 61 zM rfl rfl) (by rw[hA.size];exact Nat.le_of_ble_eq_true zM);have f64:=a0a (v:= .agg #[.slice ea ne ec,.slice fa nf fc,.slice wa nw wc,.slice pa l.length pc]) (a0c hD 12 64 zM rfl rfl);go_simp;refine(hRo W hM).mono ?_;exact yid
    |14,_,ho =>
     cases ho;have e61:bb.tmps[61]? =some (.bool false):=a3x (v:= .bool false) (a0c hD 9 61 zM rfl rfl) (by rw[hA.size];exact Nat.le_of_ble_eq_true zM);have f63:=a0c hD 11 63 zM rfl rfl;have f65:=a0c hD 13 65 zM rfl rfl;obtain⟨u1,g1,g2,g3⟩:=f63;obtain⟨u2,g4,g5,g6⟩:=f65;have e63:=a0a g1;have e65:=a0a g4;go_simp;refine(b9u u1 u2 ids W g2 g5 hidl).mono ?_;exact yin
    |15,_,ho =>
     cases ho;have e61:bb.tmps[61]? =some (.bool false):=a3x (v:= .bool false) (a0c hD 9 61 zM rfl rfl) (by rw[hA.size];exact Nat.le_of_ble_eq_true zM);have f66:=a0a (v:= .bool true) (a0c hD 14 66 zM rfl rfl);exact yep
    |i+16,hi,_=>exact absurd hi oM
   case tail8 =>
    intro bb W9 hM9 hA hall;have h61:bb.eval (.tmp 61)= .bool false:=hall 9 oM _ _ rfl rfl;have h67:bb.eval (.tmp 67)= .bool false:=hall 15 oM _ _ rfl rfl;have hfr:=hA.frame (rT 52 (rF 16 (rT 59 ([])))) _ rfl zM;clear hall hA;obtain⟨f,hf⟩:∃f:Nat->Value,(λk=>bb.tmps.getD k undef)=f:=⟨_,rfl⟩;have g61:f 61= .bool false:=by rw[<-hf,<-h61];rfl
    have g67:f 67= .bool false:=by rw[<-hf,<-h67];rfl
    rw[hf]at hfr;clear hf h61 h67;subst hfr;simp only[rT,rF,a1z,g61,g67,Nat.reduceAdd];clear g61 g67;simp only[zU];have hb49:=hb48.trans (hM9.mono hb48.size);have hb39:=hb38.trans (hM9.mono hb38.size);have hPi9:=hPi8.up hM9;have k15d:=k15b.below hM9 k15b.lt;clear h_m0 h_m1 h_m2 h_m3 h_a0 h_a1 h_a2 h_b0 h_b1 h_b2 hSa hOr hRo hPi8 hPa8 k12c k13c k15b hM9 hb48 hb38 hOd8;obtain⟨_,_,_,e_,⟨hdt,hdtf⟩,-⟩:=hPi9.ex
    cases e_;go_wp2_with fail;go_loopw [17] (λtt wx=>∃t:Nat,t<=3/\tt= .int .i64 (t:Nat)/\Below W9.heap.size W9 wx) (λtt _=>3-(intOf tt).toNat)
    case atStart=>exact⟨0,oM,rfl,zR _ _⟩
    case round =>
     obtain⟨t,ht,rfl,hbt⟩:=hrel;by_cases ht3:t<3
     ·have htI:(t:Int)<3:=oM
      have hb3t:=hb39.trans (hbt.mono hb39.size);have k15r:=k15d.below hbt k15d.lt;have hdr:=hdt.up hbt;have hzt:=hbt.size;go_upto_region 14 with fail;obtain⟨bq,hbq⟩:=zE ((decide (0<t)&&decide (0<pl.dots.length)));go_cut [82] (λv wx=>v= .bool bq/\wr=wx)
      case first =>
       by_cases ht0:t=0
       ·subst ht0
        obtain rfl:bq=false:=by simpa using hbq.symm
        exact ygh
       have htp:(0:Int)<(t:Int):=oM;have htn:0<t:=oM;obtain⟨xa,xc,hxv,-⟩:=hdr.form;obtain⟨nD,hnD⟩:=zE pl.dots.length;rw[hnD]at hxv hbq;rw[decide_eq_true htn,Bool.true_and]at hbq;have h_b0:wr.cell? ⟨B15,0,none⟩=some (.slice xa nD xc):=hxv▸k15r.cell 0;clear hxv hnD;by_cases hnil:nD=0
       ·subst hnil
        obtain rfl:bq=false:=by simpa using hbq.symm
        exact ygh
       ·have hlI:(0:Int)<(nD:Int):=oM
        have hlN:0<nD:=oM;obtain rfl:bq=true:=by rw[<-hbq];exact decide_eq_true hlN
        exact ygh
      case rest =>
      obtain⟨rfl,hwE⟩:=hcut;subst hwE;go_upto_if 82 with fail;go_cut [18,19] (λv1 v2 wx=>∃i j:Int,v1= .int .i64 i/\v2= .int .i64 j/\Below wr.heap.size wr wx)
      case first =>
       cases bq
       ·go_wp2_with fail
        go_meet;exact⟨ix,iy,rfl,rfl,zR _ _⟩
       ·rw[Bool.and_eq_true]at hbq
        have hlp:=of_decide_eq_true hbq.2;clear hbq;obtain⟨dg,dO,dcap,hxv,-,-,hdc⟩:=hdr.some_ hlp;have h_b0:wr.cell? ⟨B15,0,none⟩=some (.slice (some ⟨dg,dO,none⟩) pl.dots.length dcap):=hxv▸k15r.cell 0;obtain⟨nx,hnx⟩:=zE (IntKind.i64.wrap (-ix));obtain⟨mx,hmx⟩:=zE ((if(if ix<nx then nx else ix)<0 then 0 else if ix<nx then nx else ix));have hmx0:0<=mx:=by
         rw[<-hmx];exact yhs
        obtain⟨jx,hjx,hjl⟩:∃j:Nat,Int.tmod mx (pl.dots.length:Int)=(j:Int)/\j<pl.dots.length:=⟨(mx % (pl.dots.length:Int)).toNat,by
         rw[Int.tmod_eq_emod_of_nonneg hmx0,Int.toNat_of_nonneg (Int.emod_nonneg _ oM)],by
         have h1:=Int.emod_nonneg mx (show(pl.dots.length:Int)≠0 by omega);have h2:=Int.emod_lt_of_pos mx (show(0:Int)<(pl.dots.length:Int) by omega);omega⟩
        have hyc:=hdc jx hjl;obtain⟨y,hy⟩:=zE (pl.dots[jx]);rw[hy]at hyc;obtain⟨h_y0,h_y1,h_y2,h_y3⟩:wr.cell? ⟨dg,dO+jx*4,none⟩=some (.int .i64 y.x)/\wr.cell? ⟨dg,dO+jx*4+1,none⟩=some (.int .i64 y.y)/\wr.cell? ⟨dg,dO+jx*4+2,none⟩=some (.int .i64 y.k)/\wr.cell? ⟨dg,dO+jx*4+3,none⟩=some (.int .i64 y.i):=⟨hyc 0 (show 0<4 by decide),hyc 1 (show 1<4 by decide),hyc 2 (show 2<4 by decide),hyc 3 (show 3<4 by decide)⟩;obtain⟨nD,hnD⟩:=zE pl.dots.length;rw[hnD]at h_b0 hjx hjl hlp;have hlI:(0:Int)<(nD:Int):=oM;have hlN:0<nD:=oM;have hlz2:¬nD=0:=oM;have hjI:(jx:Int)<(nD:Int):=oM;have hlz:((nD:Int)==0)=false:=by rw[beq_eq_false_iff_ne];omega
        clear hyc hdc hy hxv hnD;go_upto_region 15 with fail;refine Go.wp_region_rel 13 zM zM (λ_ W=>Below wr.heap.size wr W) (λw w'=>Below w.heap.size w w') (FDd wr B15 dg dO dcap jx nD ix nx mx y) (λ_ _ _ _ h g=>h.kept g) (zR _ _).drew ?step15 ?tail15
        case step15 =>
         clear hz hP3 hOd hbox hids hcd hpl hdt hdr hPi9 k15d k15r kL;intro i o hi ho c bb W hc hM hA hD K hK;match i,hi,ho with
         |0,_,ho =>
          exact yey
         |1,_,ho =>
          cases ho;have f83:=a0a (v:= .pointer (some ⟨B15,0,none⟩)) (a0c hD 0 83 zM rfl rfl);exact yex
         |2,_,ho =>
          exact yge
         |3,_,ho =>
          exact yge
         |4,_,ho =>
          cases ho;have f86:=a0a (v:= .int .i64 ix) (a0c hD 3 86 zM rfl rfl);go_simp;exact hK (.int .i64 nx) W rfl (zR _ _) hM
         |5,_,ho =>
          cases ho;have f85:=a0a (v:= .int .i64 ix) (a0c hD 2 85 zM rfl rfl);have f87:=a0a (v:= .int .i64 nx) (a0c hD 4 87 zM rfl rfl);go_simp;exact hK (.int .i64 mx) W rfl (zR _ _) hM
         |6,_,ho =>
          exact yey
         |7,_,ho =>
          cases ho;have f89:=a0a (v:= .pointer (some ⟨B15,0,none⟩)) (a0c hD 6 89 zM rfl rfl);exact yex
         |8,_,ho =>
          cases ho;have f90:=a0a (v:= .slice (some ⟨dg,dO,none⟩) nD dcap) (a0c hD 7 90 zM rfl rfl);go_simp;exact hK (.int .i64 (nD:Nat)) W rfl (zR _ _) hM
         |9,_,ho =>
          cases ho;have f88:=a0a (v:= .int .i64 mx) (a0c hD 5 88 zM rfl rfl);have f91:=a0a (v:= .int .i64 (nD:Nat)) (a0c hD 8 91 zM rfl rfl);go_simp;exact hK (.int .i64 (jx:Nat)) W rfl (zR _ _) hM
         |10,_,ho =>
          cases ho;have f84:=a0a (v:= .slice (some ⟨dg,dO,none⟩) nD dcap) (a0c hD 1 84 zM rfl rfl);have f92:=a0a (v:= .int .i64 (jx:Nat)) (a0c hD 9 92 zM rfl rfl);go_simp;exact hK (.pointer (some ⟨dg,dO+jx*4,none⟩)) W rfl (zR _ _) hM
         |11,_,ho =>
          cases ho;have f93:=a0a (v:= .pointer (some ⟨dg,dO+jx*4,none⟩)) (a0c hD 10 93 zM rfl rfl);have z0:W.cell? ⟨dg,dO+jx*4,none⟩=some (.int .i64 y.x):=a0l hM h_y0;have z1:W.cell? ⟨dg,dO+jx*4+1,none⟩=some (.int .i64 y.y):=a0l hM h_y1;have z2:W.cell? ⟨dg,dO+jx*4+2,none⟩=some (.int .i64 y.k):=a0l hM h_y2;have z3:W.cell? ⟨dg,dO+jx*4+3,none⟩=some (.int .i64 y.i):=a0l hM h_y3;go_simp;exact hK (.agg #[.int .i64 y.x,.int .i64 y.y,.int .i64 y.k,.int .i64 y.i]) W rfl (zR _ _) hM
         |12,_,ho =>
          cases ho;go_simp;exact hK (.pointer (some ⟨W.heap.size,0,none⟩)) _ ⟨_,rfl,Blk.new _ _ _,hM.size⟩ ((zR _ _).alloc (yR _) _) (hM.alloc hM.size _)
         |i+13,hi,_=>exact absurd hi oM
        case tail15 =>
         intro bb W15 hM15 hA hall;obtain⟨L1,h20,hL1,hLw⟩:=(show ∃L,bb.eval (.tmp 20)= .pointer (some ⟨L,0,none⟩)/\Blk W15 L #[.int .i64 0,.int .i64 0,.int .i64 0,.int .i64 0] 54/\wr.heap.size<=L from hall 12 oM _ _ rfl rfl);have h94:bb.eval (.tmp 94)= .agg #[.int .i64 y.x,.int .i64 y.y,.int .i64 y.k,.int .i64 y.i]:=hall 11 oM _ _ rfl rfl;have hfr:=hA.frame (rT 20 (rF 1 (rT 62 (rF 12 (rT 32 ([])))))) _ rfl zM;clear hall hA;obtain⟨f2,hf⟩:∃f:Nat->Value,(λk=>bb.tmps.getD k undef)=f:=⟨_,rfl⟩;have g20:f2 20= .pointer (some ⟨L1,0,none⟩):=by rw[<-hf,<-h20];rfl
         have g94:f2 94= .agg #[.int .i64 y.x,.int .i64 y.y,.int .i64 y.k,.int .i64 y.i]:=by rw[<-hf,<-h94];rfl
         rw[hf]at hfr;clear hf h20 h94;subst hfr;simp only[rT,rF,a1z,g20,g94,Nat.reduceAdd];clear g20 g94;simp only[zU];obtain⟨a0,a1_,a2_,a3_⟩:=zN4 hL1;have z0:=hL1.frozen 0;have z1:=hL1.frozen 1;have z2:=hL1.frozen 2;have z3:=hL1.frozen 3;go_upto_region 16 with fail;have k16:=(((hL1.set 0 (.int .i64 y.x)).set 1 (.int .i64 y.y)).set 2 (.int .i64 y.k)).set 3 (.int .i64 y.i);have hb16:=((((hM15.setCell (p:=⟨L1,0,none⟩) hLw (.int .i64 y.x)).setCell (p:=⟨L1,1,none⟩) hLw (.int .i64 y.y)).setCell (p:=⟨L1,2,none⟩) hLw (.int .i64 y.k)).setCell (p:=⟨L1,3,none⟩) hLw (.int .i64 y.i));obtain⟨W16,hW16⟩:=zE ((((W15.setCell ⟨L1,0,none⟩ (.int .i64 y.x)).setCell ⟨L1,1,none⟩ (.int .i64 y.y)).setCell ⟨L1,2,none⟩ (.int .i64 y.k)).setCell ⟨L1,3,none⟩ (.int .i64 y.i));rw[hW16]at k16 hb16 ⊢;have e0:W16.cell? ⟨L1,0,none⟩=some (.int .i64 y.x):=k16.cell 0;have e1:W16.cell? ⟨L1,1,none⟩=some (.int .i64 y.y):=k16.cell 1;have hz16:=hb16.size;clear hW16 a0 a1_ a2_ a3_ z0 z1 z2 z3 hL1 hM15 k16 h_y0 h_y1 h_y2 h_y3 h_b0;first|with_reducible refine a0e zM zM ?_|with_reducible refine a0g zM zM ?_
         repeat(first|go_big_quiet_step (fail)|quiet_step (fail))
         refine wpQuiet_nil ?_;intro _ hw_;obtain⟨p,hw_⟩:=hw_;subst hw_;go_wp2_with fail;go_meet;exact⟨_,_,rfl,rfl,Go.below_growBy' hb16 hz16 _⟩
      case rest =>
       obtain⟨i,j,rfl,rfl,hbc⟩:=hcut;have hbtc:=hbt.trans (hbc.mono hbt.size);have hb3c:=hb3t.trans (hbc.mono hb3t.size);have hF1:=b6u s d15 k15 l15 pl.dots i j wc (hdt.up hbtc) hdtf;have hF2:=λX (hX:Below wc.heap.size wc X)=>d0p d15 k15 l15 pl.dots i j X ((hdt.up hbtc).up hX) hdl
       obtain⟨o,ho⟩:=zE (pl.dots.find? (atD i j));rw[ho]at hF1;simp only[ho]at hF2;obtain⟨p,q,hpq⟩:∃p q,d6w o= .tuple #[.int .i64 p,.int .i64 q]:=by
        cases o
        ·exact⟨_,_,rfl⟩
        ·exact⟨_,_,rfl⟩
       rw[hpq]at hF1;simp only[hpq]at hF2;clear hpq ho;have k15c:=k15d.below hbtc k15d.lt;obtain⟨-,-,s0,s1,s2,s3,s4,s5⟩:=hbox.out wc hb3c;obtain⟨b0_,b1_,b2_⟩:=zN3 k15c;go_wp2_with (first
        |(go_at_call 16;go_loud ((with_reducible refine hF1.mono ?_));rintro e wa⟨rfl,hba⟩
          have k15e:=k15c.below hba k15c.lt;obtain⟨a0_,a1_,a2_⟩:wa.cell? ⟨B15,0,none⟩=some d15/\wa.cell? ⟨B15,1,none⟩=some k15/\wa.cell? ⟨B15,2,none⟩=some l15:=⟨k15e.cell 0,k15e.cell 1,k15e.cell 2⟩)
        |(go_at_call 17;(with_reducible refine(hF2 _ hba).mono ?_);rintro e we⟨rfl,hbe⟩))
       go_roundw
       case rel=>exact⟨t+1,oM,by go_num,hbtc.trans ((hba.trans (hbe.mono hba.size)).mono hbtc.size)⟩
       case measure=>first|(simp[intOf];done)|(simp[intOf];omega)
     ·obtain rfl:t=3:=oM
      go_wp2_with fail;go_roundw
      case rel=>exact⟨k+1,oM,by go_num,hb49.trans (hbt.mono hb49.size)⟩
      case measure=>first|(simp[intOf];done)|(simp[intOf];omega)
  ·obtain rfl:k=2:=oM
   go_wp2_with fail;go_ret;exact⟨rfl,hbw4.trans (hbr.mono hbw4.size)⟩
end
end Go.Proofs.YtfocdbjceedagaaGreatDoor
