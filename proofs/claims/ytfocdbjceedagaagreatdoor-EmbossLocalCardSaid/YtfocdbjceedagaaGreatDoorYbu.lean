/-
  Parts.
-/
import Derived.Test.YtfocdbjceedagaaGreatDoorYbt
set_option linter.unusedVariables false
set_option linter.unusedSimpArgs false
set_option maxHeartbeats 8000000
set_option maxRecDepth 100000
namespace Go.Proofs.YtfocdbjceedagaaGreatDoor
open Tryz
section
open Go Go.RowKit Go.Shelf Go.Lib
attribute [local go_sem] Oper.semAt_some
attribute [local go_sem ↓] Go.wp_at_zero Go.wp_at_succ
theorem c6o:∀ {l:List Pc},a6v l→∀ {x:Pc},x∈l→l.find? (fun p=>decide (p.id=x.id))=some x
 |[],_,_,hx=>by cases hx
 |y::l,hn,x,hx=>by
  unfold a6v at hn;rw[List.map_cons,List.nodup_cons] at hn;rw[List.find?_cons];rcases List.mem_cons.1 hx with rfl|hx
  ·rw[decide_eq_true rfl]
  ·have hne:y.id≠x.id:=fun e=>hn.1 (by rw[e];exact List.mem_map_of_mem hx)
   rw[decide_eq_false hne];exact c6o hn.2 hx
theorem b8c {s:Sh}(hs:a1w s=0)(ws:List Wy)(qs:List Pc):∀d∈(a2p s ws qs).dots,a0i d.x∧a0i d.y:=fun d hd=>by
 obtain⟨x0,x1,y0,y1⟩:=b9g (a5h hs) ws qs d hd;exact⟨⟨by omega,by omega⟩,⟨by omega,by omega⟩⟩
theorem d1u {s:Sh}(hs:a1w s=0)(x:Pc):∀d∈(pfS s x).2,a0i d.x∧a0i d.y:=fun d hd=>by
 obtain⟨x0,x1,y0,y1⟩:=c5j (a5h hs) (c8c s x d hd);exact⟨⟨by omega,by omega⟩,⟨by omega,by omega⟩⟩
theorem d3d {s:Sh}(hs:a1w s=0):s.g≤4:=by
 unfold a1w at hs;split at hs
 ·rename_i h
  simp only[inR,Bool.and_eq_true,decide_eq_true_eq] at h;exact h.2.2
 ·cases hs
theorem d1v {g:Int}{pf:Pc→Bool×List Dt}{gone:Int}{Q:Dt→Prop}(h:∀x,∀d∈(pf x).2,Q d)(xs:List Pc):∀d∈(loF g pf gone xs).2,Q d:=by
 refine a4h (Q:=fun xs=>∀d∈(loF g pf gone xs).2,Q d) (by simp[loF]) ?_ xs;intro l x ih;rw[a6h];unfold loS;split
 ·exact fun d hd=>(List.mem_append.1 hd).elim (ih d) (h x d)
 ·split
  ·exact fun d hd=>(List.mem_append.1 hd).elim (ih d) (h x d)
  ·exact ih
theorem c6p (la:Option Addr)(lcap:Nat)(rows:List (Value×List Int))(q0 q1 q2 b0 b1 b2 b3:Int)(raw:Sh)(x0:Int)(fq0:a0i q0)(fq1:a0i q1)(fq2:a0i q2)(h0:0≤b0∧b0≤255)(h1:0≤b1∧b1≤255)(h2:0≤b2∧b2≤255)(h3:0≤b3∧b3≤255)(fx:a0i raw.ax)(fy:a0i raw.ay)(hx00:0≤x0)(hx01:x0≤255)(w:World)(hM:Mat w.heap.size w (.slice la rows.length lcap) rows)(hPow:Pow w) :
 Calls prog 7 #[.agg (a9q (.slice la rows.length lcap) q0 q1 q2 b0 b1 b2 b3 raw),.int .u8 x0] w fun e w'=>e= .returned (.bool true)∧Below w.heap.size w w':=by
 have hsan:=fun (W:World) (hb:Below w.heap.size w W)=>c9c W (fun X h=>hPow.below (hb.trans (h.mono hb.size)))
 have hmad:=fun (W:World) (hb:Below w.heap.size w W)=>d3c la lcap rows q0 q1 q2 b0 b1 b2 b3 raw fq0 fq1 fq2 h0 h1 h2 h3 W ((hM.below hb).mono hb.size)
 have hb0:Below w.heap.size w (w.alloc (.cells (a9q (.slice la rows.length lcap) q0 q1 q2 b0 b1 b2 b3 raw) 30)):=(zR _ _).alloc (yR _) _;obtain⟨fs0,fs1⟩:=b9x (a:=b0) (b:=b1) (c:=b2) (d:=b3) fx fy;go_enter func7,ntmps7;go_upto_region 1 with fail;have kC:=Blk.new w (a9q (.slice la rows.length lcap) q0 q1 q2 b0 b1 b2 b3 raw) 30;obtain⟨W0,hW0⟩:∃W,w.alloc (.cells (a9q (.slice la rows.length lcap) q0 q1 q2 b0 b1 b2 b3 raw) 30)=W:=⟨_,rfl⟩;rw[hW0] at kC hb0 ⊢;clear hW0;go_upto_region 2 with (first
  |(go_at_call 8;(with_reducible refine (hsan _ hb0).mono ?_);rintro e w1⟨rfl,hb1⟩)
  |fail)
 have hbw1:=hb0.trans (hb1.mono hb0.size);have kC1:=kC.below hb1 kC.lt;clear kC hb1 hsan hb0;obtain⟨c0,c1,c2,c3,c4,c5,c6,c7,c8,c9,c10,c11,c12,c13⟩:w1.cell? ⟨w.heap.size,0,none⟩=some (.slice la rows.length lcap)∧w1.cell? ⟨w.heap.size,1,none⟩=some (.int .i64 q0)∧w1.cell? ⟨w.heap.size,2,none⟩=some (.int .i64 q1)∧w1.cell? ⟨w.heap.size,3,none⟩=some (.int .i64 q2)∧w1.cell? ⟨w.heap.size,4,none⟩=some (.int .u8 b0)∧w1.cell? ⟨w.heap.size,5,none⟩=some (.int .u8 b1)∧w1.cell? ⟨w.heap.size,6,none⟩=some (.int .u8 b2)∧w1.cell? ⟨w.heap.size,7,none⟩=some (.int .u8 b3)∧w1.cell? ⟨w.heap.size,8,none⟩=some (.int .i64 raw.ax)∧w1.cell? ⟨w.heap.size,9,none⟩=some (.int .i64 raw.ay)∧w1.cell? ⟨w.heap.size,10,none⟩=some (.int .i64 raw.st)∧w1.cell? ⟨w.heap.size,11,none⟩=some (.int .i64 raw.w)∧w1.cell? ⟨w.heap.size,12,none⟩=some (.int .i64 raw.h)∧w1.cell? ⟨w.heap.size,13,none⟩=some (.int .i64 raw.g):=⟨kC1.cell 0,kC1.cell 1,kC1.cell 2,kC1.cell 3,kC1.cell 4,kC1.cell 5,kC1.cell 6,kC1.cell 7,kC1.cell 8,kC1.cell 9,kC1.cell 10,kC1.cell 11,kC1.cell 12,kC1.cell 13⟩;obtain⟨s,hsh⟩:∃s,a5v b0 b1 b2 b3 raw=s:=⟨_,rfl⟩;rw[hsh] at hmad fs0 fs1;clear hsh;go_upto_region 3 with (first
  |(go_at_call 9;(with_reducible refine (hmad _ hbw1).mono ?_);rintro e w2⟨ea,ne,ec,fa,nf,fc,wa,nw,wc,pa,pc,a1,m1,d1,a2,m2,d2,a3,m3,d3,a4,m4,d4,l,ws,rfl,hMo,hb2⟩)
  |fail)
 clear c0 c1 c2 c3 c4 c5 c6 c7 c8 c9 c10 c11 c12 c13 kC1 hmad;have km:=((Blk.new w2 #[.slice ea ne ec,.slice fa nf fc,.slice wa nw wc,.slice pa l.length pc] 37).alloc (.cells #[.slice a1 m1 d1,.slice a2 m2 d2,.slice a3 m3 d3,.slice a4 m4 d4] 37)).alloc (.cells #[.int .i64 s.ax,.int .i64 s.ay,.int .i64 s.st,.int .i64 s.w,.int .i64 s.h,.int .i64 s.g] 28);have ks:=Blk.new ((w2.alloc (.cells #[.slice ea ne ec,.slice fa nf fc,.slice wa nw wc,.slice pa l.length pc] 37)).alloc (.cells #[.slice a1 m1 d1,.slice a2 m2 d2,.slice a3 m3 d3,.slice a4 m4 d4] 37)) #[.int .i64 s.ax,.int .i64 s.ay,.int .i64 s.st,.int .i64 s.w,.int .i64 s.h,.int .i64 s.g] 28;obtain⟨W3,hW3⟩:∃W,((w2.alloc (.cells #[.slice ea ne ec,.slice fa nf fc,.slice wa nw wc,.slice pa l.length pc] 37)).alloc (.cells #[.slice a1 m1 d1,.slice a2 m2 d2,.slice a3 m3 d3,.slice a4 m4 d4] 37)).alloc (.cells #[.int .i64 s.ax,.int .i64 s.ay,.int .i64 s.st,.int .i64 s.w,.int .i64 s.h,.int .i64 s.g] 28)=W:=⟨_,rfl⟩;have hb23:Below w2.heap.size w2 W3:=by rw[←hW3];exact (((zR _ _).alloc (yR _) _).alloc (by simp) _).alloc (by simp;omega) _
 simp only[World.size_alloc] at ks;rw[hW3] at km ks ⊢;have hM3:=hMo.up hb23;have hbw3:=(hbw1.trans (hb2.mono hbw1.size)).trans (hb23.mono (Nat.le_trans hbw1.size hb2.size));obtain⟨n2,hn2⟩:∃n,w2.heap.size=n:=⟨_,rfl⟩;rw[hn2] at km ks ⊢;clear hW3 hn2 hb23 hMo hb2 hbw1 hM;have hP3:∀X,Below W3.heap.size W3 X→Pow X:=fun X h=>hPow.below (hbw3.trans (h.mono hbw3.size))
 obtain⟨m0,m1,m2,m3⟩:W3.cell? ⟨n2,0,none⟩=some (.slice ea ne ec)∧W3.cell? ⟨n2,1,none⟩=some (.slice fa nf fc)∧W3.cell? ⟨n2,2,none⟩=some (.slice wa nw wc)∧W3.cell? ⟨n2,3,none⟩=some (.slice pa l.length pc):=⟨km.cell 0,km.cell 1,km.cell 2,km.cell 3⟩;obtain⟨s0,s1,s2,s3,s4,s5⟩:W3.cell? ⟨n2+1+1,0,none⟩=some (.int .i64 s.ax)∧W3.cell? ⟨n2+1+1,1,none⟩=some (.int .i64 s.ay)∧W3.cell? ⟨n2+1+1,2,none⟩=some (.int .i64 s.st)∧W3.cell? ⟨n2+1+1,3,none⟩=some (.int .i64 s.w)∧W3.cell? ⟨n2+1+1,4,none⟩=some (.int .i64 s.h)∧W3.cell? ⟨n2+1+1,5,none⟩=some (.int .i64 s.g):=⟨ks.cell 0,ks.cell 1,ks.cell 2,ks.cell 3,ks.cell 4,ks.cell 5⟩;have hl6:=hM3.len;by_cases hl0:l.length=0
 ·have hl0I:((l.length:Int)==0)=true:=by simp[hl0]
  clear hP3 hPow;go_wp2_with fail;go_ret;exact⟨rfl,hbw3⟩
 have hl0I:((l.length:Int)==0)=false:=by simpa using hl0
 by_cases hs:a1w s=0
 rotate_left 1
 ·obtain⟨c,hc⟩:∃c,a1w s=c:=⟨_,rfl⟩
  have hDc:=fun X=>a4x hc X fs0 fs1
  rw[hc] at hs;have hc0:(c != 0)=true:=by simpa using hs
  clear hc;go_wp2_with (first
   |(go_at_call 22;(with_reducible refine (hDc _).mono ?_);rintro e w6⟨rfl,hb6⟩)
   |fail)
  go_ret;exact⟨rfl,hbw3.trans (hb6.mono hbw3.size)⟩
 have hDc:=fun X=>a4x hs X fs0 fs1
 go_upto_region 5 with (first
  |(go_at_call 22;(with_reducible refine (hDc _).mono ?_);rintro e w4⟨rfl,hb4⟩)
  |fail)
 clear m0 m1 m2 m3 s0 s1 s2 s3 s4 s5 hDc hl0I;have hbw4:=hbw3.trans (hb4.mono hbw3.size);have km4:=km.below hb4 km.lt;have ks4:=ks.below hb4 ks.lt;have hM4:=hM3.up hb4;clear km ks hM3 hP3 hb4 hbw3;obtain⟨m0,m1,m2,m3⟩:w4.cell? ⟨n2,0,none⟩=some (.slice ea ne ec)∧w4.cell? ⟨n2,1,none⟩=some (.slice fa nf fc)∧w4.cell? ⟨n2,2,none⟩=some (.slice wa nw wc)∧w4.cell? ⟨n2,3,none⟩=some (.slice pa l.length pc):=⟨km4.cell 0,km4.cell 1,km4.cell 2,km4.cell 3⟩;have hl0J:¬(l.length:Int)=0:=by omega
 have hl0K:(l.length:Int)≠0:=by omega
 have hxw:wrap64 x0=x0:=IntWalk.wrap64_in _ (by omega);go_upto_region 7 with fail;clear m0 m1 m2 m3;obtain⟨k,hk,hkl⟩:∃k:Nat,x0 % (l.length:Int)=(k:Int)∧k<l.length:=⟨(x0 % (l.length:Int)).toNat,by have:=Int.emod_nonneg x0 hl0K;omega,by have h2:=Int.emod_nonneg x0 hl0K;have:=Int.emod_lt_of_pos x0 (show (0:Int)<(l.length:Int) by omega);omega⟩;rw[hk];clear hk hl0J hl0K hxw hx00 hx01;obtain⟨_,_,e_,hlpc,-⟩:=id hM4.p
 cases e_;have hk1:(k:Int)+1≤(l.length:Int):=by omega
 have hk0:(k:Int)≤(pc:Int):=by omega
 have hk2:(0:Int)≤(k:Int)+1:=by omega
 have hk3:((k:Int)+1).toNat=k+1:=by omega
 have hwk:IntKind.i64.wrap ((k:Int)+1)=(k:Int)+1:=a0s (by omega) (by omega);have kN:=Blk.new w4 #[.slice ea ne ec,.slice fa nf fc,.slice wa nw wc,.slice pa l.length pc] 37;have hb45:Below w4.heap.size w4 (w4.alloc (.cells #[.slice ea ne ec,.slice fa nf fc,.slice wa nw wc,.slice pa l.length pc] 37)):=(zR _ _).alloc (yR _) _;obtain⟨B8,hB8e⟩:∃b,w4.heap.size=b:=⟨_,rfl⟩;have hB8:w4.heap.size≤B8:=by omega
 have h68:n2≠B8:=by have:=km4.lt;omega
 have h69:n2+1+1≠B8:=by have:=ks4.lt;omega
 obtain⟨W5,hW5⟩:∃W,w4.alloc (.cells #[.slice ea ne ec,.slice fa nf fc,.slice wa nw wc,.slice pa l.length pc] 37)=W:=⟨_,rfl⟩;rw[hW5] at kN hb45 ⊢;rw[hB8e] at kN ⊢;clear hW5 hB8e;have hM5:=hM4.up hb45;have hfp:=hM4.frm;refine Go.wp_region_rel 11 (by kernel_rfl) (by kernel_rfl) (fun _ W=>NeR W5 n2 (.slice pa l.length pc) l W) (fun w w'=>Below w.heap.size w w') (FLe W5 l pa n2 pc k) (fun _ _ _ _ h g=>h.kept g) ⟨(zR _ _).drew,(km4.below hb45 km4.lt).cell 3,hM5.p.up (zR _ _).drew⟩ ?step7 ?tail7
 case step7 =>
  clear hM4 hM5 hb45 kN hbw4 km4 ks4 hPow hs;intro i o hi ho c bb W hc hM hA hD K hK;match i,hi,ho with
  |0,_,ho =>
   cases ho;go_simp;exact hK (.slice (some ⟨W.heap.size,0,none⟩) 0 0) _ ⟨_,rfl,hM.bel.size,Blk.new _ _ _⟩ ((zR _ _).alloc (yR _) _) (hM.up ((zR _ _).alloc (yR _) _))
  |1,_,ho =>
   cases ho;have f6:=a0a (v:= .pointer (some ⟨n2,0,none⟩)) (hA.at_ (k:=6) (by kernel_rfl));go_simp;exact hK (.pointer (some ⟨n2,3,none⟩)) W rfl (zR _ _) hM
  |2,_,ho =>
   cases ho;have f49:=a0a (v:= .pointer (some ⟨n2,3,none⟩)) (a0e hD 1 49 (by kernel_rfl) rfl rfl);have z0:W.cell? ⟨n2,3,none⟩=some (.slice pa l.length pc):=hM.c;go_simp;exact hK (.slice pa l.length pc) W rfl (zR _ _) hM
  |3,_,ho =>
   cases ho;have f9:=a0a (v:= .int .i64 (k:Nat)) (hA.at_ (k:=9) (by kernel_rfl));go_simp;exact hK (.int .i64 (k:Nat)) W rfl (zR _ _) hM
  |4,_,ho =>
   cases ho;have f50:=a0a (v:= .slice pa l.length pc) (a0e hD 2 50 (by kernel_rfl) rfl rfl);have f51:=a0a (v:= .int .i64 (k:Nat)) (a0e hD 3 51 (by kernel_rfl) rfl rfl);go_simp;exact hK (.slice pa k pc) W rfl (zR _ _) hM
  |5,_,ho =>
   cases ho;have f48:=a0e hD 0 48 (by kernel_rfl) rfl rfl;have f52:=a0a (v:= .slice pa k pc) (a0e hD 4 52 (by kernel_rfl) rfl rfl);obtain⟨Z,h1,h2,h3⟩:=f48;obtain⟨hL,hF⟩:=c6k (k:=k) hM.v hfp (by omega);refine El.step_freshO a2h c9r _ _ (by rfl) _ Z h1 (b7l h3 h2) _ (l.take k) (c1f f52) hL hF (by rw[List.length_take];omega) hM.bel.size ?_;rintro v9 w9 hr9 hb9⟨g,c,e9,-⟩;exact hK v9 w9 ⟨g,c,e9,hr9⟩ hb9 (hM.up hb9)
  |6,_,ho =>
   cases ho;have f6:=a0a (v:= .pointer (some ⟨n2,0,none⟩)) (hA.at_ (k:=6) (by kernel_rfl));go_simp;exact hK (.pointer (some ⟨n2,3,none⟩)) W rfl (zR _ _) hM
  |7,_,ho =>
   cases ho;have f54:=a0a (v:= .pointer (some ⟨n2,3,none⟩)) (a0e hD 6 54 (by kernel_rfl) rfl rfl);have z0:W.cell? ⟨n2,3,none⟩=some (.slice pa l.length pc):=hM.c;go_simp;exact hK (.slice pa l.length pc) W rfl (zR _ _) hM
  |8,_,ho =>
   cases ho;have f9:=a0a (v:= .int .i64 (k:Nat)) (hA.at_ (k:=9) (by kernel_rfl));go_simp;exact hK (.int .i64 (k:Nat)) W rfl (zR _ _) hM
  |9,_,ho =>
   cases ho;have f56:=a0a (v:= .int .i64 (k:Nat)) (a0e hD 8 56 (by kernel_rfl) rfl rfl);go_simp;exact hK (.int .i64 ((k:Nat)+1)) W rfl (zR _ _) hM
  |10,_,ho =>
   cases ho;have f55:=a0a (v:= .slice pa l.length pc) (a0e hD 7 55 (by kernel_rfl) rfl rfl);have f57:=a0a (v:= .int .i64 ((k:Nat)+1)) (a0e hD 9 57 (by kernel_rfl) rfl rfl);have hT:=b7p (k:=k+1) hM.v hfp (by omega);go_simp;exact hK _ W hT (zR _ _) hM
  |i+11,hi,_=>exact absurd hi (by omega)
 case tail7 =>
  intro bb W' hM hA hall;obtain⟨g,c,h48,hr48⟩:=(show ∃g c,bb.eval (.tmp 53)= .slice (some ⟨g,0,none⟩) (l.take k).length c∧W'.ownsRow W5.heap.size 66 7 (bb.eval (.tmp 53)) (l.take k).length ((l.take k).flatMap plE.enc) from hall 5 (by omega) _ _ rfl rfl);obtain⟨hL53,hF53⟩:=(show Lst plE W'.heap.size W' (bb.eval (.tmp 58)) (l.drop (k+1))∧Frm (bb.eval (.tmp 58)) (l.drop (k+1)).length from hall 10 (by omega) _ _ rfl rfl);obtain⟨v53,hv53⟩:∃v,bb.eval (.tmp 58)=v:=⟨_,rfl⟩;rw[h48] at hr48;rw[hv53] at hL53 hF53;have hfr:=hA.frame [T,T,T,T,T,T,T,T,T,T,T,T,T,T,T,T,T,T,T,T,T,T,T,T,T,T,T,T,T,T,T,T,T,T,T,T,T,T,T,T,T,T,T,T,T,T,T,T,F,F,F,F,F,F,F,F,F,F,F,T,T,T,T,T,T,T,T,T,T,T,T,T,T,T,T,T,T,T,T,T,T,T,T,T,T,T,T,T,T,T,T,T,T,T,T,T,T,T,T,T,T,T,T,T,T,T,T,T,T,T,T,T,T,T,T,T,T,T,T,T,T,T,T,T,T,T,T,T,T,T,T,T,T,T,T,T,T,T,T,T,T,T,T,T,T] _ rfl (by kernel_rfl);clear hall hA;obtain⟨f,hf⟩:∃f:Nat→Value,(fun k=>bb.tmps.getD k undef)=f:=⟨_,rfl⟩;have g48:f 53= .slice (some ⟨g,0,none⟩) (l.take k).length c:=by rw[←hf,←h48];rfl
  have g53:f 58=v53:=by rw[←hf,←hv53];rfl
  rw[hf] at hfr;clear hf h48 hv53;subst hfr;simp only[a2a,g48,g53,Nat.reduceAdd];clear g48 g53;simp only[List.drop_succ_cons,List.drop_zero];have hbx:=hM.bel;have hsum:(l.take k).length+(l.drop (k+1)).length≤100000:=by rw[List.length_take,List.length_drop];omega
  have hNl:=kN.lt;clear hM;refine El.join a2h c9r (by rfl) _ _ (by rfl) W5.heap.size (by rfl) (l.take k) hr48 ⟨_,_,rfl⟩ (l.drop (k+1)) (by rfl) hL53 hF53 hsum hbx.size ?_;rintro v9 w9 hr9 hg9 hb9⟨g9,c9,rfl⟩;have hb59:=hbx.trans hb9;have kN9:=kN.below hb59 hNl;have hsplit:l=l.take k++l[k]::l.drop (k+1):=by
   conv=>lhs;rw[←List.take_append_drop k l]
   rw[List.drop_eq_getElem_cons hkl]
  have hpk:=List.getElem_mem hkl;obtain⟨p,hp⟩:∃p,l[k]=p:=⟨_,rfl⟩;rw[hp] at hsplit hpk;obtain⟨l1,hl1⟩:∃l1,l.take k=l1:=⟨_,rfl⟩;obtain⟨l2,hl2⟩:∃l2,l.drop (k+1)=l2:=⟨_,rfl⟩;have hnd:=PlsOk.nodup hM4.ok.id;have hsub:∀x∈l1++l2,x∈l:=fun x hx=>by
   rcases List.mem_append.1 hx with h|h
   ·rw[←hl1] at h;exact List.mem_of_mem_take h
   ·rw[←hl2] at h;exact List.mem_of_mem_drop h
  have hl'6:(l1++l2).length≤6:=by rw[←hl1,←hl2,List.length_append,List.length_take,List.length_drop];omega
  rw[hl1,hl2] at hsplit hr9 ⊢;obtain⟨l',hl'⟩:∃l',l1++l2=l':=⟨_,rfl⟩;rw[hl'] at hr9 hl'6 hsub ⊢;have hg10:=a1m w9 B8 3 (.slice (some ⟨g9,0,none⟩) l'.length c9);have q3:w9.cell? ⟨B8,3,none⟩=some (.slice pa l.length pc):=kN9.cell 3;have f3:=kN9.frozen 3;have hr10:=hr9.kept hg10 (.inr (a0r hr9 kN9 (by decide)));have kN10:Blk (w9.setCell ⟨B8,3,none⟩ (.slice (some ⟨g9,0,none⟩) l'.length c9)) B8 #[.slice ea ne ec,.slice fa nf fc,.slice wa nw wc,.slice (some ⟨g9,0,none⟩) l'.length c9] 37:=by simpa using kN9.set 3 (.slice (some ⟨g9,0,none⟩) l'.length c9)
  have hb49:=hb45.trans (hb59.mono hb45.size);have hb410:=hb49.grown hg10 hb49.size (fun q e=>by cases e;exact hB8);clear hr9 hg9 hb9 hb49 hb59 kN kN9 hM5 hg10 hr48 hL53 hF53 hbx hsum hl1 hl2 hNl;replace hsplit:=Lib.hid hsplit;replace hl':=Lib.hid hl';replace hp:=Lib.hid hp;go_upto_region 8 with fail;obtain⟨w10,hw10⟩:∃W,w9.setCell ⟨B8,3,none⟩ (.slice (some ⟨g9,0,none⟩) l'.length c9)=W:=⟨_,rfl⟩;rw[hw10] at hr10 kN10 hb410 ⊢;clear hw10 q3 f3;have hbw10:=hbw4.trans (hb410.mono hbw4.size);have km10:=km4.below hb410 km4.lt;have ks10:=ks4.below hb410 ks4.lt;have hM10:=hM4.up hb410;have hL10:=a0b a2h hr10 (by omega);clear km4 ks4 hM4 hb410 hbw4 hr10 hB8 h68 h69 hb45;have hok:∀p∈l,PcOk p∧p.cls.size≤1000:=fun p hp=>⟨hM10.ok.ok p hp,hM10.ok.cl p hp⟩
  have hkin:a4c (a2p s ws (a0t l)).dots 2=a4c (a2p s ws (a0t l')).dots 2:=by
   rw[b7c _ (b9v s ws) (fun x _=>b9w s x),b7c _ (b9v s ws) (fun x _=>b9w s x)]
  have hplain:∀i x,(a0t l)[i]? =some x→x.id≠p.id→((loF s.g (pfS s) p.id ((a0t l).take i)).1&&((pfS s x).1&&decide (a1x (loF s.g (pfS s) p.id ((a0t l).take i)).2 (pfS s x).2<s.g)))=false→a7w (a2p s ws (a0t l)).dots 3 x.id=a7w (a2p s ws (a0t l')).dots 3 x.id:=by
   intro i x hgx hx hc;obtain⟨hi,rfl⟩:=List.getElem?_eq_some_iff.1 hgx;rw[←hl'.out];have hs':=hsplit.out;subst hs';exact b9y (kf:=a6t) (d3d hs) (wdF s ws) (b9v s ws) hnd (fun x=>b9w s x) (fun x=>d1r s x) hi hx hc
  have hSl:(a0t l).length=l.length:=(a1g l).length_eq;have hSok:∀x∈a0t l,PcOk x∧x.cls.size≤1000:=fun x hx=>hok x ((a1g l).mem_iff.1 hx)
  have hSf:∀x∈a0t l,l.find? (fun q=>decide (q.id=x.id))=some x:=fun x hx=>c6o hnd ((a1g l).mem_iff.1 hx)
  have hOr:=fun X (h:MapOk X (.slice wa nw wc) (.slice pa l.length pc) l ws)=>b6x (.slice ea ne ec) (.slice fa nf fc) (.slice wa nw wc) (.slice pa l.length pc) l X h.p h.frm (by omega)
  have hMk:=a8q s fs0 fs1 hs (.slice ea ne ec) (.slice fa nf fc) (.slice wa nw wc) (.slice pa l.length pc) l ws w10 hM10.p hM10.frm (by omega) hok hM10.w (fun y hy=>(hM10.wo y hy).1) hM10.wl (fun y hy=>(hM10.wo y hy).2) (fun X h=>hPow.below (hbw10.trans (h.mono hbw10.size)));have hMk2:=fun X (h:Below w10.heap.size w10 X)=>a8q s fs0 fs1 hs (.slice ea ne ec) (.slice fa nf fc) (.slice wa nw wc) (.slice (some ⟨g9,0,none⟩) l'.length c9) l' ws X (hL10.up h) (.inr ⟨_,_,_,rfl⟩) (by omega) (fun p hp=>hok p (hsub p hp)) (hM10.up h).w (fun y hy=>(hM10.wo y hy).1) hM10.wl (fun y hy=>(hM10.wo y hy).2) (fun Y hY=>hPow.below (hbw10.trans ((h.trans (hY.mono h.size)).mono hbw10.size)))
  have hwl:=b1n (a5h hs) ws;have hfD:=b8c hs ws (a0t l);have hfD2:=b8c hs ws (a0t l');have hpl:=(a9y s ws (a0t l)).1;have hpl2:=(a9y s ws (a0t l')).1;rw[(a1g l).length_eq] at hpl;rw[(a1g l').length_eq] at hpl2;obtain⟨pl,hplE⟩:∃pl,a2p s ws (a0t l)=pl:=⟨_,rfl⟩;obtain⟨pl2,hplE2⟩:∃pl,a2p s ws (a0t l')=pl:=⟨_,rfl⟩;simp only[hplE,hplE2] at hplain hkin;rw[hplE] at hMk hfD hpl;simp only[hplE2] at hMk2 hfD2 hpl2;have hDl:pl.dots.length≤100000:=by omega
  have hDl2:pl2.dots.length≤100000:=by omega
  obtain⟨S,hSe⟩:∃S,a0t l=S:=⟨_,rfl⟩;rw[hSe] at hSl hSok hSf;simp only[hSe] at hplain hOr;obtain⟨ids,hide⟩:∃ids,S.map Pc.id=ids:=⟨_,rfl⟩;simp only[hide] at hOr;have hidl:ids.length=S.length:=by rw[←hide,List.length_map]
  have hidg:∀i (h:i<S.length) (h':i<ids.length),ids[i]=S[i].id:=fun i h h'=>by simp only[←hide,List.getElem_map]
  replace hidl:=Lib.hid hidl;replace hSl:=Lib.hid hSl;replace hkin:=Lib.hid hkin;clear hplE hplE2 hSe hide hwl hpl hpl2 hnd;obtain⟨m0,m1,m2,m3⟩:w10.cell? ⟨n2,0,none⟩=some (.slice ea ne ec)∧w10.cell? ⟨n2,1,none⟩=some (.slice fa nf fc)∧w10.cell? ⟨n2,2,none⟩=some (.slice wa nw wc)∧w10.cell? ⟨n2,3,none⟩=some (.slice pa l.length pc):=⟨km10.cell 0,km10.cell 1,km10.cell 2,km10.cell 3⟩;obtain⟨s0,s1,s2,s3,s4,s5⟩:w10.cell? ⟨n2+1+1,0,none⟩=some (.int .i64 s.ax)∧w10.cell? ⟨n2+1+1,1,none⟩=some (.int .i64 s.ay)∧w10.cell? ⟨n2+1+1,2,none⟩=some (.int .i64 s.st)∧w10.cell? ⟨n2+1+1,3,none⟩=some (.int .i64 s.w)∧w10.cell? ⟨n2+1+1,4,none⟩=some (.int .i64 s.h)∧w10.cell? ⟨n2+1+1,5,none⟩=some (.int .i64 s.g):=⟨ks10.cell 0,ks10.cell 1,ks10.cell 2,ks10.cell 3,ks10.cell 4,ks10.cell 5⟩;go_upto_region 9 with (first
   |(go_at_call 10;(with_reducible refine hMk.mono ?_);rintro e w11⟨v,rfl,hP,hb11⟩
     obtain⟨dv,kv,lv,rfl,⟨hd,-⟩,⟨hk,-⟩,hlf,-⟩:=hP.ex;obtain⟨da,dc,rfl,-⟩:=hd.form;obtain⟨ka,kc,rfl,-⟩:=hk.form;obtain⟨la',lc',rfl,-⟩:=hlf.form)
   |fail)
  clear m0 m1 m2 m3 s0 s1 s2 s3 s4 s5 hMk hP hk hlf;have kp12:=Blk.new w11 #[.slice da pl.dots.length dc,.slice ka pl.keys.length kc,.slice la' pl.left.length lc'] 45;have hb12:Below w11.heap.size w11 (w11.alloc (.cells #[.slice da pl.dots.length dc,.slice ka pl.keys.length kc,.slice la' pl.left.length lc'] 45)):=(zR _ _).alloc (yR _) _;obtain⟨W12,hW12⟩:∃W,w11.alloc (.cells #[.slice da pl.dots.length dc,.slice ka pl.keys.length kc,.slice la' pl.left.length lc'] 45)=W:=⟨_,rfl⟩;obtain⟨bp,hbp⟩:∃n,w11.heap.size=n:=⟨_,rfl⟩;rw[hW12] at kp12 hb12 ⊢;have hd12:=hd.up hb12;rw[hbp] at kp12 ⊢;have hb1012:=hb11.trans (hb12.mono hb11.size);obtain⟨dv,hdv⟩:∃v,Value.slice da pl.dots.length dc=v:=⟨_,rfl⟩;obtain⟨kv,hkv⟩:∃v,Value.slice ka pl.keys.length kc=v:=⟨_,rfl⟩;obtain⟨lv,hlv⟩:∃v,Value.slice la' pl.left.length lc'=v:=⟨_,rfl⟩;rw[hdv,hkv,hlv] at kp12;rw[hdv] at hd12;clear hdv hkv hlv;clear hW12 hbp hb12 hb11 hd;have hbw12:=hbw10.trans (hb1012.mono hbw10.size);have km12:=km10.below hb1012 km10.lt;have ks12:=ks10.below hb1012 ks10.lt;have kN12:=kN10.below hb1012 kN10.lt;have hM12:=hM10.up hb1012;have hMk:=hMk2 _ hb1012;clear hMk2 km10 ks10 kN10 hM10 hL10 hb1012 hbw10;obtain⟨m0,m1,m2,m3⟩:W12.cell? ⟨B8,0,none⟩=some (.slice ea ne ec)∧W12.cell? ⟨B8,1,none⟩=some (.slice fa nf fc)∧W12.cell? ⟨B8,2,none⟩=some (.slice wa nw wc)∧W12.cell? ⟨B8,3,none⟩=some (.slice (some ⟨g9,0,none⟩) l'.length c9):=⟨kN12.cell 0,kN12.cell 1,kN12.cell 2,kN12.cell 3⟩;obtain⟨s0,s1,s2,s3,s4,s5⟩:W12.cell? ⟨n2+1+1,0,none⟩=some (.int .i64 s.ax)∧W12.cell? ⟨n2+1+1,1,none⟩=some (.int .i64 s.ay)∧W12.cell? ⟨n2+1+1,2,none⟩=some (.int .i64 s.st)∧W12.cell? ⟨n2+1+1,3,none⟩=some (.int .i64 s.w)∧W12.cell? ⟨n2+1+1,4,none⟩=some (.int .i64 s.h)∧W12.cell? ⟨n2+1+1,5,none⟩=some (.int .i64 s.g):=⟨ks12.cell 0,ks12.cell 1,ks12.cell 2,ks12.cell 3,ks12.cell 4,ks12.cell 5⟩;go_upto_region 10 with (first
   |(go_at_call 10;(with_reducible refine hMk.mono ?_);rintro e w13⟨v,rfl,hP,hb13⟩
     obtain⟨dv,kv,lv,rfl,⟨hd2,-⟩,⟨hk,-⟩,hlf,-⟩:=hP.ex;obtain⟨da,dc,rfl,-⟩:=hd2.form;obtain⟨ka,kc,rfl,-⟩:=hk.form;obtain⟨la',lc',rfl,-⟩:=hlf.form)
   |fail)
  clear m0 m1 m2 m3 s0 s1 s2 s3 s4 s5 hMk hP hk hlf kN12;have kq14:=Blk.new w13 #[.slice da pl2.dots.length dc,.slice ka pl2.keys.length kc,.slice la' pl2.left.length lc'] 45;have hb14:Below w13.heap.size w13 (w13.alloc (.cells #[.slice da pl2.dots.length dc,.slice ka pl2.keys.length kc,.slice la' pl2.left.length lc'] 45)):=(zR _ _).alloc (yR _) _;obtain⟨W14,hW14⟩:∃W,w13.alloc (.cells #[.slice da pl2.dots.length dc,.slice ka pl2.keys.length kc,.slice la' pl2.left.length lc'] 45)=W:=⟨_,rfl⟩;obtain⟨bq,hbq⟩:∃n,w13.heap.size=n:=⟨_,rfl⟩;rw[hW14] at kq14 hb14 ⊢;have hd214:=hd2.up hb14;rw[hbq] at kq14 ⊢;have hb1214:=hb13.trans (hb14.mono hb13.size);obtain⟨dv2,hdv⟩:∃v,Value.slice da pl2.dots.length dc=v:=⟨_,rfl⟩;obtain⟨kv2,hkv⟩:∃v,Value.slice ka pl2.keys.length kc=v:=⟨_,rfl⟩;obtain⟨lv2,hlv⟩:∃v,Value.slice la' pl2.left.length lc'=v:=⟨_,rfl⟩;rw[hdv,hkv,hlv] at kq14;rw[hdv] at hd214;clear hdv hkv hlv;clear hW14 hbq hb14 hb13 hd2;have hbw14:=hbw12.trans (hb1214.mono hbw12.size);have km14:=km12.below hb1214 km12.lt;have ks14:=ks12.below hb1214 ks12.lt;have kp14:=kp12.below hb1214 kp12.lt;have hM14:=hM12.up hb1214;have hd14:=hd12.up hb1214;clear km12 ks12 kp12 hM12 hd12 hb1214 hbw12;have hOr14:=hOr _ hM14;obtain⟨pb,po,pcap,hv,-,-,hcc⟩:=hM14.p.some_ (by omega);simp only[Value.slice.injEq,true_and] at hv;obtain⟨rfl,rfl⟩:=hv;have hck:=hcc k hkl;rw[hp.out] at hck;have d0:W14.cell? ⟨pb,po+k*7,none⟩=some (.int .i64 p.id):=hck 0 (show 0<7 by decide);have hkI:(k:Int)<(l.length:Int):=by omega
  clear hcc hck;obtain⟨m0,m1,m2,m3⟩:W14.cell? ⟨n2,0,none⟩=some (.slice ea ne ec)∧W14.cell? ⟨n2,1,none⟩=some (.slice fa nf fc)∧W14.cell? ⟨n2,2,none⟩=some (.slice wa nw wc)∧W14.cell? ⟨n2,3,none⟩=some (.slice (some ⟨pb,po,none⟩) l.length pc):=⟨km14.cell 0,km14.cell 1,km14.cell 2,km14.cell 3⟩;go_wp2_with (first
   |(go_at_call 14;(with_reducible refine hOr14.mono ?_);rintro e w15⟨ov,rfl,ho,-,hb15⟩;obtain⟨oa,oc,rfl,-⟩:=ho.form)
   |fail)
  have hbw15:=hbw14.trans (hb15.mono hbw14.size);have km15:=km14.below hb15 km14.lt;have ks15:=ks14.below hb15 ks14.lt;have kp15:=kp14.below hb15 kp14.lt;have kq15:=kq14.below hb15 kq14.lt;have hM15:=hM14.up hb15;have hd15:=hd14.up hb15;have hd215:=hd214.up hb15;clear m0 m1 m2 m3 d0 km14 ks14 kp14 kq14 hM14 hd14 hd214 hb15 hbw14 hOr hOr14;have hLo15:LoR w15 (n2+1+1) bp bq s.g dv kv lv dv2 kv2 lv2 pl.dots pl2.dots w15:=⟨zR _ _,ks15.cell 5,⟨kp15.cell 0,kp15.cell 1,kp15.cell 2⟩,⟨kq15.cell 0,kq15.cell 1,kq15.cell 2⟩,hd15,hd215⟩;go_loopw [16,17,88] (fun cv bv iv wx=>∃i:Nat,i≤S.length∧iv= .int .i64 (i:Nat)∧bv= .bool (loF s.g (pfS s) p.id (S.take i)).1∧wx.ownsRow w15.heap.size 54 4 cv (loF s.g (pfS s) p.id (S.take i)).2.length ((loF s.g (pfS s) p.id (S.take i)).2.flatMap dtE.enc)∧Below w15.heap.size w15 wx) (fun _ _ iv _=>S.length-(intOf iv).toNat)
  case atStart=>exact⟨0,Nat.zero_le _,rfl,rfl,⟨rfl,.inl ⟨rfl,rfl⟩⟩,zR _ _⟩
  case round =>
   obtain⟨i,hi,rfl,rfl,hrow,hbr⟩:=hrel;have hidl':=hidl.out;have hSl':=hSl.out;by_cases hlt:i<S.length
   ·have hiI:(i:Int)<(ids.length:Int):=by omega
    have hst:=c9n (g:=s.g) (pf:=pfS s) (gone:=p.id) hlt;have hCl:=d1s (g:=s.g) (gone:=p.id) (a8o s) (S.take i);have hCf:=d1v (g:=s.g) (gone:=p.id) (d1u hs) (S.take i);have hpi:=hplain i _ (List.getElem?_eq_getElem hlt);have hiN:i<ids.length:=by omega
    have hidi:=hidg i hlt hiN;have hxS:=List.getElem_mem hlt;obtain⟨hxo,hxc⟩:=hSok _ hxS;have hxf:=hSf _ hxS;have hLl:=a8o s S[i];rw[List.length_take] at hCl;have hCb:(loF s.g (pfS s) p.id (S.take i)).2.length≤1000:=by omega
    have hS6:S.length≤6:=by omega
    have hid6:ids.length≤6:=by omega
    clear hCl hidl' hSl';obtain⟨⟨id,x,y,cls,nm,wt,ds⟩,hxe⟩:∃x,S[i]=x:=⟨_,rfl⟩;rw[hxe] at hst hpi hidi hxo hxc hxf hLl;obtain⟨⟨bh,C⟩,hCe⟩:∃r,loF s.g (pfS s) p.id (S.take i)=r:=⟨_,rfl⟩;rw[hCe] at hst hpi hrow hCb hCf ⊢;have hPl:=fun X (h:Below w.heap.size w X)=>c6l s id x y wt ds id cls nm X fs0 fs1 hxo.id hxc (hPow.below h)
    simp only[show plF s x y id cls id=pfS s ⟨id,x,y,cls,nm,wt,ds⟩ from rfl] at hPl;obtain⟨⟨can,L⟩,hpE⟩:∃r,pfS s ⟨id,x,y,cls,nm,wt,ds⟩=r:=⟨_,rfl⟩;unfold loS at hst;rw[hpE] at hst hpi hLl;simp only[hpE] at hPl;simp only at hst hpi hidi hxc hxf hrow hCb hCf hLl hPl ⊢;have hrowr:wr.ownsRow w15.heap.size 54 4 u16 C.length (C.flatMap dtE.enc):=hrow;have kmr:=km15.below hbr km15.lt;have hbwr:=hbw15.trans (hbr.mono hbw15.size);have hPt:Calls prog 24 #[.agg #[.slice ea ne ec,.slice fa nf fc,.slice wa nw wc,.slice (some ⟨pb,po,none⟩) l.length pc],.int .i64 id] wr fun e w'=>e= .returned (.tuple #[.agg #[.int .i64 id,.int .i64 x,.int .i64 y,.string cls,.string nm,.int .i64 wt,.int .i64 ds],.bool true])∧Below wr.heap.size wr w':=d1i (.slice ea ne ec) (.slice fa nf fc) (.slice wa nw wc) _ l id wr (hM15.up hbr).p (by omega) hxf
    obtain⟨ob,oo,ocap,hv,-,-,hc⟩:=(ho.up hbr).some_ (Nat.lt_of_le_of_lt (Nat.zero_le _) hiN);simp only[Value.slice.injEq,true_and] at hv;obtain⟨rfl,rfl⟩:=hv;have e0:wr.cell? ⟨ob,oo+i,none⟩=some (.int .i64 id):=by
     have:=hc i hiN 0 (show 0<1 by decide);rw[Nat.mul_one,hidi] at this;exact this
    obtain⟨m0,m1,m2,m3⟩:wr.cell? ⟨n2,0,none⟩=some (.slice ea ne ec)∧wr.cell? ⟨n2,1,none⟩=some (.slice fa nf fc)∧wr.cell? ⟨n2,2,none⟩=some (.slice wa nw wc)∧wr.cell? ⟨n2,3,none⟩=some (.slice (some ⟨pb,po,none⟩) l.length pc):=⟨kmr.cell 0,kmr.cell 1,kmr.cell 2,kmr.cell 3⟩;replace hst:=Lib.hid hst;clear hc hxe hCe hpE hidi hxf hrow kmr;go_upto_region 19 with (first
     |(go_at_call 24;(with_reducible refine hPt.mono ?_);rintro e w5⟨rfl,hb5⟩)
     |fail)
    clear m0 m1 m2 m3 e0 hPt;have hb56:Below w5.heap.size w5 (w5.alloc (.cells #[.int .i64 id,.int .i64 x,.int .i64 y,.string cls,.string nm,.int .i64 wt,.int .i64 ds] 66)):=(zR _ _).alloc (yR _) _;have kA:=Blk.new w5 #[.int .i64 id,.int .i64 x,.int .i64 y,.string cls,.string nm,.int .i64 wt,.int .i64 ds] 66;have hb15r5:=hbr.trans (hb5.mono hbr.size);have hb156:=hb15r5.trans (hb56.mono hb15r5.size);have hrow6:=a1k (a1k hrowr hb5) hb56;obtain⟨W6,hW6⟩:∃W,w5.alloc (.cells #[.int .i64 id,.int .i64 x,.int .i64 y,.string cls,.string nm,.int .i64 wt,.int .i64 ds] 66)=W:=⟨_,rfl⟩;obtain⟨bA,hbA⟩:∃n,w5.heap.size=n:=⟨_,rfl⟩;rw[hW6] at kA hb156 hrow6 ⊢;rw[hbA] at kA ⊢;clear hW6 hbA hb15r5 hb56 hrowr hb5 hbr hbwr;have hbw6:=hbw15.trans (hb156.mono hbw15.size);have hPl6:=hPl W6 hbw6;have ks6:=ks15.below hb156 ks15.lt;obtain⟨s0,s1,s2,s3,s4,s5⟩:W6.cell? ⟨n2+1+1,0,none⟩=some (.int .i64 s.ax)∧W6.cell? ⟨n2+1+1,1,none⟩=some (.int .i64 s.ay)∧W6.cell? ⟨n2+1+1,2,none⟩=some (.int .i64 s.st)∧W6.cell? ⟨n2+1+1,3,none⟩=some (.int .i64 s.w)∧W6.cell? ⟨n2+1+1,4,none⟩=some (.int .i64 s.h)∧W6.cell? ⟨n2+1+1,5,none⟩=some (.int .i64 s.g):=⟨ks6.cell 0,ks6.cell 1,ks6.cell 2,ks6.cell 3,ks6.cell 4,ks6.cell 5⟩;obtain⟨a0,a1_,a2_,a3_,a4_,a5_,a6_⟩:W6.cell? ⟨bA,0,none⟩=some (.int .i64 id)∧W6.cell? ⟨bA,1,none⟩=some (.int .i64 x)∧W6.cell? ⟨bA,2,none⟩=some (.int .i64 y)∧W6.cell? ⟨bA,3,none⟩=some (.string cls)∧W6.cell? ⟨bA,4,none⟩=some (.string nm)∧W6.cell? ⟨bA,5,none⟩=some (.int .i64 wt)∧W6.cell? ⟨bA,6,none⟩=some (.int .i64 ds):=⟨kA.cell 0,kA.cell 1,kA.cell 2,kA.cell 3,kA.cell 4,kA.cell 5,kA.cell 6⟩;go_upto_region 20 with (first
     |(go_at_call 23;(with_reducible refine hPl6.mono ?_);rintro e w7⟨lw,rfl,hLw,hFw,hDw,hb7⟩)
     |fail)
    clear s0 s1 s2 s3 s4 s5 a0 a1_ a2_ a3_ a4_ a5_ a6_ hPl hPl6 ks6 kA;have hb157:=hb156.trans (hb7.mono hb156.size);have hrow7:=a1k hrow6 hb7;have hz7:=hb157.size;have hLo7:=hLo15.up hb157;clear hrow6 hb156 hb7 hbw6;by_cases hgo:id=p.id
    ·have hq:(id==p.id)=true:=by simpa using hgo
     have hst':=hst.out;rw[if_pos hgo] at hst';replace hst':=Lib.hid hst';clear hst hgo;go_wp2_with (first
      |(at_builtin;refine El.all a6s d1w (by rfl) _ _ (by rfl) w15.heap.size (by rfl) C hrow7 L (by rfl) hLw hFw (by omega) hz7 ?_;intro v9 w9 hr9 hb9)
      |fail)
     go_roundw
     case rel=>exact⟨i+1,by omega,by go_num,by rw[hst'.out],by rw[hst'.out];exact hr9,hb157.trans hb9⟩
     case measure=>first|(simp[intOf];done)|(simp[intOf];omega)
    ·have hq:(id==p.id)=false:=by simpa using hgo
     have hst':=hst.out;rw[if_neg hgo] at hst';replace hst':=Lib.hid hst';clear hst;have hpi':=hpi hgo;clear hpi hgo;go_upto_region 25 with fail;go_cut [124] (fun v wx=>v= .bool (bh&&(can&&decide (a1x C L<s.g)))∧LoR w15 (n2+1+1) bp bq s.g dv kv lv dv2 kv2 lv2 pl.dots pl2.dots wx∧Below w7.heap.size w7 wx)
     case first =>
      have hC0:=a3v hrow7 (by omega) hCf;have hC:=fun W (h:Below w7.heap.size w7 W)=>hC0.up30 h
      have hL:=fun W (h:Below w7.heap.size w7 W)=>hDw.up30 h
      have hLs:LoR w7 (n2+1+1) bp bq s.g dv kv lv dv2 kv2 lv2 pl.dots pl2.dots w7:=⟨zR _ _,hLo7.g,hLo7.p,hLo7.q,hLo7.d,hLo7.d2⟩;clear hC0
      cases bh
      ·refine Go.wp_region_relg 11 (by kernel_rfl) (by kernel_rfl) (fun _ W=>LoR w7 (n2+1+1) bp bq s.g dv kv lv dv2 kv2 lv2 pl.dots pl2.dots W) (fun w w'=>Below w.heap.size w w') (FLa (n2+1+1) s.g u16 lw C L can) (fun _ _ _ _ h g=>h.kept g) (hLs.up (zR _ _).drew) ?_ ?_
       ·intro i o hi ho c bb W hc hM hA hD K hK
        match i,hi,ho with
        |0,_,ho =>
         cases ho;have f17:=a0a (v:= .bool false) (hA.at_ (k:=17) (by kernel_rfl));go_simp;exact hK (.bool false) W rfl (zR _ _) hM
        |1,_,ho =>
         cases ho;have f113:=a0a (v:= .bool false) (a0e hD 0 113 (by kernel_rfl) rfl rfl);go_simp;exact hK (.bool false) W rfl (zR _ _) hM
        |2,_,ho =>
         cases ho;have e114:bb.tmps[114]? =some (.bool false):=a1e (v:= .bool false) (a0e hD 1 114 (by kernel_rfl) rfl rfl) (by rw[hA.size];exact Nat.le_of_ble_eq_true (by kernel_rfl));go_simp;exact hK (undef) W rfl (zR _ _) hM
        |3,_,ho =>
         cases ho;have f114:=a0a (v:= .bool false) (a0e hD 1 114 (by kernel_rfl) rfl rfl);have f115:=a0a (v:=undef) (a0e hD 2 115 (by kernel_rfl) rfl rfl);go_simp;exact hK (.bool false) W rfl (zR _ _) hM
        |4,_,ho =>
         cases ho;have f116:=a0a (v:= .bool false) (a0e hD 3 116 (by kernel_rfl) rfl rfl);go_simp;exact hK (.bool false) W rfl (zR _ _) hM
        |5,_,ho =>
         cases ho;have e117:bb.tmps[117]? =some (.bool false):=a1e (v:= .bool false) (a0e hD 4 117 (by kernel_rfl) rfl rfl) (by rw[hA.size];exact Nat.le_of_ble_eq_true (by kernel_rfl));go_simp;exact hK (undef) W rfl (zR _ _) hM
        |6,_,ho =>
         cases ho;have e117:bb.tmps[117]? =some (.bool false):=a1e (v:= .bool false) (a0e hD 4 117 (by kernel_rfl) rfl rfl) (by rw[hA.size];exact Nat.le_of_ble_eq_true (by kernel_rfl));go_simp;exact hK (undef) W rfl (zR _ _) hM
        |7,_,ho =>
         cases ho;have e117:bb.tmps[117]? =some (.bool false):=a1e (v:= .bool false) (a0e hD 4 117 (by kernel_rfl) rfl rfl) (by rw[hA.size];exact Nat.le_of_ble_eq_true (by kernel_rfl));go_simp;exact hK (undef) W rfl (zR _ _) hM
        |8,_,ho =>
         cases ho;have e117:bb.tmps[117]? =some (.bool false):=a1e (v:= .bool false) (a0e hD 4 117 (by kernel_rfl) rfl rfl) (by rw[hA.size];exact Nat.le_of_ble_eq_true (by kernel_rfl));go_simp;exact hK (undef) W rfl (zR _ _) hM
        |9,_,ho =>
         cases ho;have e117:bb.tmps[117]? =some (.bool false):=a1e (v:= .bool false) (a0e hD 4 117 (by kernel_rfl) rfl rfl) (by rw[hA.size];exact Nat.le_of_ble_eq_true (by kernel_rfl));go_simp;exact hK (undef) W rfl (zR _ _) hM
        |10,_,ho =>
         cases ho;have e117:bb.tmps[117]? =some (.bool false):=a1e (v:= .bool false) (a0e hD 4 117 (by kernel_rfl) rfl rfl) (by rw[hA.size];exact Nat.le_of_ble_eq_true (by kernel_rfl));go_simp;exact hK (undef) W rfl (zR _ _) hM
        |i+11,hi,_=>exact absurd hi (by omega)
       ·intro bb W hM hA hall
        have h117:bb.tmps[117]?.getD undef= .bool false:=a0a (v:= .bool false) (hall 4 (by omega) _ _ rfl rfl);have h123:bb.tmps[123]?.getD undef=undef:=a0a (v:=undef) (hall 10 (by omega) _ _ rfl rfl);have hfr:=hA.frame [T,T,T,T,T,T,T,T,T,T,T,T,T,T,T,T,T,T,T,T,T,T,T,T,T,T,T,T,T,T,T,T,T,T,T,T,T,T,T,T,T,T,T,T,T,T,T,T,T,T,T,T,T,T,T,T,T,T,T,T,T,T,T,T,T,T,T,T,T,T,T,T,T,T,T,T,T,T,T,T,T,T,T,T,T,T,T,T,T,T,T,T,T,T,T,T,T,T,T,T,T,T,T,T,T,T,T,T,T,T,T,T,T,F,F,F,F,F,F,F,F,F,F,F,T,T,T,T,T,T,T,T,T,T,T,T,T,T,T,T,T,T,T,T,T] _ rfl (by kernel_rfl);clear hall hA;obtain⟨f,hf⟩:∃f:Nat→Value,(fun k=>bb.tmps.getD k undef)=f:=⟨_,rfl⟩;have g117:f 117= .bool false:=by rw[←hf];simpa using h117
        have g123:f 123=undef:=by rw[←hf];simpa using h123
        rw[hf] at hfr;clear hf h117 h123;subst hfr;simp only[a2a,g117,g123,Nat.reduceAdd];clear g117 g123;simp only[List.drop_succ_cons,List.drop_zero];have hbM:=hM.bel;have hLM:LoR w15 (n2+1+1) bp bq s.g dv kv lv dv2 kv2 lv2 pl.dots pl2.dots W:=hLo7.up hM.bel;go_wp2_with fail;go_meet;exact⟨by simp,hLM,hbM⟩
      ·cases can
       ·refine Go.wp_region_relg 11 (by kernel_rfl) (by kernel_rfl) (fun _ W=>LoR w7 (n2+1+1) bp bq s.g dv kv lv dv2 kv2 lv2 pl.dots pl2.dots W) (fun w w'=>Below w.heap.size w w') (FLb (n2+1+1) s.g u16 lw C L false) (fun _ _ _ _ h g=>h.kept g) (hLs.up (zR _ _).drew) ?_ ?_
        ·intro i o hi ho c bb W hc hM hA hD K hK
         match i,hi,ho with
         |0,_,ho =>
          cases ho;have f17:=a0a (v:= .bool true) (hA.at_ (k:=17) (by kernel_rfl));go_simp;exact hK (.bool true) W rfl (zR _ _) hM
         |1,_,ho =>
          cases ho;have f113:=a0a (v:= .bool true) (a0e hD 0 113 (by kernel_rfl) rfl rfl);go_simp;exact hK (.bool true) W rfl (zR _ _) hM
         |2,_,ho =>
          cases ho;have e114:bb.tmps[114]? =some (.bool true):=a1e (v:= .bool true) (a0e hD 1 114 (by kernel_rfl) rfl rfl) (by rw[hA.size];exact Nat.le_of_ble_eq_true (by kernel_rfl));have f23:=a0a (v:= .bool false) (hA.at_ (k:=23) (by kernel_rfl));go_simp;exact hK (.bool false) W rfl (zR _ _) hM
         |3,_,ho =>
          cases ho;have f114:=a0a (v:= .bool true) (a0e hD 1 114 (by kernel_rfl) rfl rfl);have f115:=a0a (v:= .bool false) (a0e hD 2 115 (by kernel_rfl) rfl rfl);go_simp;exact hK (.bool false) W rfl (zR _ _) hM
         |4,_,ho =>
          cases ho;have f116:=a0a (v:= .bool false) (a0e hD 3 116 (by kernel_rfl) rfl rfl);go_simp;exact hK (.bool false) W rfl (zR _ _) hM
         |5,_,ho =>
          cases ho;have e117:bb.tmps[117]? =some (.bool false):=a1e (v:= .bool false) (a0e hD 4 117 (by kernel_rfl) rfl rfl) (by rw[hA.size];exact Nat.le_of_ble_eq_true (by kernel_rfl));go_simp;exact hK (undef) W rfl (zR _ _) hM
         |6,_,ho =>
          cases ho;have e117:bb.tmps[117]? =some (.bool false):=a1e (v:= .bool false) (a0e hD 4 117 (by kernel_rfl) rfl rfl) (by rw[hA.size];exact Nat.le_of_ble_eq_true (by kernel_rfl));go_simp;exact hK (undef) W rfl (zR _ _) hM
         |7,_,ho =>
          cases ho;have e117:bb.tmps[117]? =some (.bool false):=a1e (v:= .bool false) (a0e hD 4 117 (by kernel_rfl) rfl rfl) (by rw[hA.size];exact Nat.le_of_ble_eq_true (by kernel_rfl));go_simp;exact hK (undef) W rfl (zR _ _) hM
         |8,_,ho =>
          cases ho;have e117:bb.tmps[117]? =some (.bool false):=a1e (v:= .bool false) (a0e hD 4 117 (by kernel_rfl) rfl rfl) (by rw[hA.size];exact Nat.le_of_ble_eq_true (by kernel_rfl));go_simp;exact hK (undef) W rfl (zR _ _) hM
         |9,_,ho =>
          cases ho;have e117:bb.tmps[117]? =some (.bool false):=a1e (v:= .bool false) (a0e hD 4 117 (by kernel_rfl) rfl rfl) (by rw[hA.size];exact Nat.le_of_ble_eq_true (by kernel_rfl));go_simp;exact hK (undef) W rfl (zR _ _) hM
         |10,_,ho =>
          cases ho;have e117:bb.tmps[117]? =some (.bool false):=a1e (v:= .bool false) (a0e hD 4 117 (by kernel_rfl) rfl rfl) (by rw[hA.size];exact Nat.le_of_ble_eq_true (by kernel_rfl));go_simp;exact hK (undef) W rfl (zR _ _) hM
         |i+11,hi,_=>exact absurd hi (by omega)
        ·intro bb W hM hA hall
         have h117:bb.tmps[117]?.getD undef= .bool false:=a0a (v:= .bool false) (hall 4 (by omega) _ _ rfl rfl);have h123:bb.tmps[123]?.getD undef=undef:=a0a (v:=undef) (hall 10 (by omega) _ _ rfl rfl);have hfr:=hA.frame [T,T,T,T,T,T,T,T,T,T,T,T,T,T,T,T,T,T,T,T,T,T,T,T,T,T,T,T,T,T,T,T,T,T,T,T,T,T,T,T,T,T,T,T,T,T,T,T,T,T,T,T,T,T,T,T,T,T,T,T,T,T,T,T,T,T,T,T,T,T,T,T,T,T,T,T,T,T,T,T,T,T,T,T,T,T,T,T,T,T,T,T,T,T,T,T,T,T,T,T,T,T,T,T,T,T,T,T,T,T,T,T,T,F,F,F,F,F,F,F,F,F,F,F,T,T,T,T,T,T,T,T,T,T,T,T,T,T,T,T,T,T,T,T,T] _ rfl (by kernel_rfl);clear hall hA;obtain⟨f,hf⟩:∃f:Nat→Value,(fun k=>bb.tmps.getD k undef)=f:=⟨_,rfl⟩;have g117:f 117= .bool false:=by rw[←hf];simpa using h117
         have g123:f 123=undef:=by rw[←hf];simpa using h123
         rw[hf] at hfr;clear hf h117 h123;subst hfr;simp only[a2a,g117,g123,Nat.reduceAdd];clear g117 g123;simp only[List.drop_succ_cons,List.drop_zero];have hbM:=hM.bel;have hLM:LoR w15 (n2+1+1) bp bq s.g dv kv lv dv2 kv2 lv2 pl.dots pl2.dots W:=hLo7.up hM.bel;go_wp2_with fail;go_meet;exact⟨by simp,hLM,hbM⟩
       ·refine Go.wp_region_relg 11 (by kernel_rfl) (by kernel_rfl) (fun _ W=>LoR w7 (n2+1+1) bp bq s.g dv kv lv dv2 kv2 lv2 pl.dots pl2.dots W) (fun w w'=>Below w.heap.size w w') (FLc (n2+1+1) s.g u16 lw C L (decide (a1x C L<s.g))) (fun _ _ _ _ h g=>h.kept g) (hLs.up (zR _ _).drew) ?_ ?_
        ·intro i o hi ho c bb W hc hM hA hD K hK
         match i,hi,ho with
         |0,_,ho =>
          cases ho;have f17:=a0a (v:= .bool true) (hA.at_ (k:=17) (by kernel_rfl));go_simp;exact hK (.bool true) W rfl (zR _ _) hM
         |1,_,ho =>
          cases ho;have f113:=a0a (v:= .bool true) (a0e hD 0 113 (by kernel_rfl) rfl rfl);go_simp;exact hK (.bool true) W rfl (zR _ _) hM
         |2,_,ho =>
          cases ho;have e114:bb.tmps[114]? =some (.bool true):=a1e (v:= .bool true) (a0e hD 1 114 (by kernel_rfl) rfl rfl) (by rw[hA.size];exact Nat.le_of_ble_eq_true (by kernel_rfl));have f23:=a0a (v:= .bool true) (hA.at_ (k:=23) (by kernel_rfl));go_simp;exact hK (.bool true) W rfl (zR _ _) hM
         |3,_,ho =>
          cases ho;have f114:=a0a (v:= .bool true) (a0e hD 1 114 (by kernel_rfl) rfl rfl);have f115:=a0a (v:= .bool true) (a0e hD 2 115 (by kernel_rfl) rfl rfl);go_simp;exact hK (.bool true) W rfl (zR _ _) hM
         |4,_,ho =>
          cases ho;have f116:=a0a (v:= .bool true) (a0e hD 3 116 (by kernel_rfl) rfl rfl);go_simp;exact hK (.bool true) W rfl (zR _ _) hM
         |5,_,ho =>
          cases ho;have e117:bb.tmps[117]? =some (.bool true):=a1e (v:= .bool true) (a0e hD 4 117 (by kernel_rfl) rfl rfl) (by rw[hA.size];exact Nat.le_of_ble_eq_true (by kernel_rfl));have f16:=a0a (v:=u16) (hA.at_ (k:=16) (by kernel_rfl));go_simp;exact hK (u16) W rfl (zR _ _) hM
         |6,_,ho =>
          cases ho;have e117:bb.tmps[117]? =some (.bool true):=a1e (v:= .bool true) (a0e hD 4 117 (by kernel_rfl) rfl rfl) (by rw[hA.size];exact Nat.le_of_ble_eq_true (by kernel_rfl));have f22:=a0a (v:=lw) (hA.at_ (k:=22) (by kernel_rfl));go_simp;exact hK (lw) W rfl (zR _ _) hM
         |7,_,ho =>
          cases ho;have e117:bb.tmps[117]? =some (.bool true):=a1e (v:= .bool true) (a0e hD 4 117 (by kernel_rfl) rfl rfl) (by rw[hA.size];exact Nat.le_of_ble_eq_true (by kernel_rfl));have f118:=a0a (v:=u16) (a0e hD 5 118 (by kernel_rfl) rfl rfl);have f119:=a0a (v:=lw) (a0e hD 6 119 (by kernel_rfl) rfl rfl);go_simp;go_at_call 25;with_reducible refine (c4l _ _ C L _ (hC _ hM.bel) (hL _ hM.bel)).mono ?_
          rintro e w9⟨rfl,hb9⟩;go_simp;exact hK (.int .i64 (a1x C L)) w9 rfl hb9 (hM.up hb9)
         |8,_,ho =>
          cases ho;have e117:bb.tmps[117]? =some (.bool true):=a1e (v:= .bool true) (a0e hD 4 117 (by kernel_rfl) rfl rfl) (by rw[hA.size];exact Nat.le_of_ble_eq_true (by kernel_rfl));have f8:=a0a (v:= .pointer (some ⟨n2+1+1,0,none⟩)) (hA.at_ (k:=8) (by kernel_rfl));go_simp;exact hK (.pointer (some ⟨n2+1+1,5,none⟩)) W rfl (zR _ _) hM
         |9,_,ho =>
          cases ho;have e117:bb.tmps[117]? =some (.bool true):=a1e (v:= .bool true) (a0e hD 4 117 (by kernel_rfl) rfl rfl) (by rw[hA.size];exact Nat.le_of_ble_eq_true (by kernel_rfl));have f121:=a0a (v:= .pointer (some ⟨n2+1+1,5,none⟩)) (a0e hD 8 121 (by kernel_rfl) rfl rfl);have z0:W.cell? ⟨n2+1+1,5,none⟩=some (.int .i64 s.g):=hM.g;go_simp;exact hK (.int .i64 s.g) W rfl (zR _ _) hM
         |10,_,ho =>
          cases ho;have e117:bb.tmps[117]? =some (.bool true):=a1e (v:= .bool true) (a0e hD 4 117 (by kernel_rfl) rfl rfl) (by rw[hA.size];exact Nat.le_of_ble_eq_true (by kernel_rfl));have f120:=a0a (v:= .int .i64 (a1x C L)) (a0e hD 7 120 (by kernel_rfl) rfl rfl);have f122:=a0a (v:= .int .i64 s.g) (a0e hD 9 122 (by kernel_rfl) rfl rfl);go_simp;exact hK (.bool (decide (a1x C L<s.g))) W rfl (zR _ _) hM
         |i+11,hi,_=>exact absurd hi (by omega)
        ·intro bb W hM hA hall
         have h117:bb.tmps[117]?.getD undef= .bool true:=a0a (v:= .bool true) (hall 4 (by omega) _ _ rfl rfl);have h123:bb.tmps[123]?.getD undef= .bool (decide (a1x C L<s.g)):=a0a (v:= .bool (decide (a1x C L<s.g))) (hall 10 (by omega) _ _ rfl rfl);have hfr:=hA.frame [T,T,T,T,T,T,T,T,T,T,T,T,T,T,T,T,T,T,T,T,T,T,T,T,T,T,T,T,T,T,T,T,T,T,T,T,T,T,T,T,T,T,T,T,T,T,T,T,T,T,T,T,T,T,T,T,T,T,T,T,T,T,T,T,T,T,T,T,T,T,T,T,T,T,T,T,T,T,T,T,T,T,T,T,T,T,T,T,T,T,T,T,T,T,T,T,T,T,T,T,T,T,T,T,T,T,T,T,T,T,T,T,T,F,F,F,F,F,F,F,F,F,F,F,T,T,T,T,T,T,T,T,T,T,T,T,T,T,T,T,T,T,T,T,T] _ rfl (by kernel_rfl);clear hall hA;obtain⟨f,hf⟩:∃f:Nat→Value,(fun k=>bb.tmps.getD k undef)=f:=⟨_,rfl⟩;have g117:f 117= .bool true:=by rw[←hf];simpa using h117
         have g123:f 123= .bool (decide (a1x C L<s.g)):=by rw[←hf];simpa using h123
         rw[hf] at hfr;clear hf h117 h123;subst hfr;simp only[a2a,g117,g123,Nat.reduceAdd];clear g117 g123;simp only[List.drop_succ_cons,List.drop_zero];have hbM:=hM.bel;have hLM:LoR w15 (n2+1+1) bp bq s.g dv kv lv dv2 kv2 lv2 pl.dots pl2.dots W:=hLo7.up hM.bel;go_wp2_with fail;go_meet;exact⟨by simp,hLM,hbM⟩
     case rest =>
      obtain⟨rfl,hLo8,hb8⟩:=hcut;obtain⟨cnd,hcnd⟩:∃c,(bh&&(can&&decide (a1x C L<s.g)))=c:=⟨_,rfl⟩;have hst2:=hst'.out;rw[hcnd] at hst2 hpi' ⊢;clear hst' hcnd;have hrow8:=a1k hrow7 hb8;have hLw8:=hLw.up hb8;have hb158:=hLo8.bel;have hz8:=hb158.size
      cases cnd
      ·simp only[Bool.false_eq_true,if_false] at hst2
       replace hst2:=Lib.hid hst2;have hsame:=hpi' rfl;replace hsame:=Lib.hid hsame;clear hpi' hrow7 hLw hb157 hb8 hDw hLo7;go_upto_region 27 with fail;refine Go.wp_region_rel 7 (by kernel_rfl) (by kernel_rfl) (fun _ W=>LoR w15 (n2+1+1) bp bq s.g dv kv lv dv2 kv2 lv2 pl.dots pl2.dots W∧Below wc.heap.size wc W) (fun w w'=>Below w.heap.size w w') (FLo (n2+1+1) bp bq s.g id dv kv lv dv2 kv2 lv2 pl.dots pl2.dots) (fun _ _ _ _ h g=>h.kept g) ⟨hLo8.up (zR _ _).drew,(zR _ _).drew⟩ ?step27 ?tail27
       case step27 =>
        have hsame:=hsame.out;intro i o hi ho c bb W hc hM2 hA hD K hK;obtain⟨hM,hbM⟩:=hM2;match i,hi,ho with
        |0,_,ho =>
         cases ho;have f11:=a0a (v:= .pointer (some ⟨bp,0,none⟩)) (hA.at_ (k:=11) (by kernel_rfl));have z0:W.cell? ⟨bp,0,none⟩=some (dv):=hM.p.1;have z1:W.cell? ⟨bp,1,none⟩=some (kv):=hM.p.2.1;have z2:W.cell? ⟨bp,2,none⟩=some (lv):=hM.p.2.2;go_simp;exact hK (.agg #[dv,kv,lv]) W rfl (zR _ _) ⟨hM,hbM⟩
        |1,_,ho =>
         cases ho;have f19:=a0a (v:= .int .i64 id) (hA.at_ (k:=19) (by kernel_rfl));go_simp;exact hK (.int .i64 id) W rfl (zR _ _) ⟨hM,hbM⟩
        |2,_,ho =>
         cases ho;have f128:=a0a (v:= .agg #[dv,kv,lv]) (a0e hD 0 128 (by kernel_rfl) rfl rfl);have f129:=a0a (v:= .int .i64 id) (a0e hD 1 129 (by kernel_rfl) rfl rfl);go_simp;go_at_call 27;with_reducible refine (c5w _ _ _ pl.dots 3 id _ hM.d (by omega)).mono ?_
         rintro e w9⟨v9,rfl,hr9,hb9⟩;go_simp;exact hK v9 w9 (a3v hr9 (by have:=c6m pl.dots 3 id;omega) (c1j hfD)) hb9 ⟨hM.up hb9,hbM.trans (hb9.mono hbM.size)⟩
        |3,_,ho =>
         cases ho;have f13:=a0a (v:= .pointer (some ⟨bq,0,none⟩)) (hA.at_ (k:=13) (by kernel_rfl));have z0:W.cell? ⟨bq,0,none⟩=some (dv2):=hM.q.1;have z1:W.cell? ⟨bq,1,none⟩=some (kv2):=hM.q.2.1;have z2:W.cell? ⟨bq,2,none⟩=some (lv2):=hM.q.2.2;go_simp;exact hK (.agg #[dv2,kv2,lv2]) W rfl (zR _ _) ⟨hM,hbM⟩
        |4,_,ho =>
         cases ho;have f19:=a0a (v:= .int .i64 id) (hA.at_ (k:=19) (by kernel_rfl));go_simp;exact hK (.int .i64 id) W rfl (zR _ _) ⟨hM,hbM⟩
        |5,_,ho =>
         cases ho;have f131:=a0a (v:= .agg #[dv2,kv2,lv2]) (a0e hD 3 131 (by kernel_rfl) rfl rfl);have f132:=a0a (v:= .int .i64 id) (a0e hD 4 132 (by kernel_rfl) rfl rfl);go_simp;go_at_call 27;with_reducible refine (c5w _ _ _ pl2.dots 3 id _ hM.d2 (by omega)).mono ?_
         rintro e w9⟨v9,rfl,hr9,hb9⟩;go_simp;exact hK v9 w9 (a3v hr9 (by have:=c6m pl2.dots 3 id;omega) (c1j hfD2)) hb9 ⟨hM.up hb9,hbM.trans (hb9.mono hbM.size)⟩
        |6,_,ho =>
         cases ho;have f130:=a0e hD 2 130 (by kernel_rfl) rfl rfl;have f133:=a0e hD 5 133 (by kernel_rfl) rfl rfl;obtain⟨d1_,hd1_⟩:∃d,bb.tmps[130]?.getD undef=d:=⟨_,rfl⟩;have hD1_:Dts W.heap.size W d1_ (a7w pl.dots 3 id):=by rw[←hd1_,a0a (v:=bb.eval (.tmp 130)) rfl];exact f130
         obtain⟨d2_,hd2_⟩:∃d,bb.tmps[133]?.getD undef=d:=⟨_,rfl⟩;have hD2_:Dts W.heap.size W d2_ (a7w pl2.dots 3 id):=by rw[←hd2_,a0a (v:=bb.eval (.tmp 133)) rfl];exact f133
         clear f130 f133;go_simp;go_at_call 26;with_reducible refine (c1g _ _ _ _ _ hD1_ hD2_).mono ?_
         rintro e w9⟨rfl,hb9⟩;rw[decide_eq_true hsame];go_simp;exact hK (.bool true) w9 rfl hb9 ⟨hM.up hb9,hbM.trans (hb9.mono hbM.size)⟩
        |i+7,hi,_=>exact absurd hi (by omega)
       case tail27 =>
        intro bb W hM hA hall;have h134:bb.tmps[134]?.getD undef= .bool true:=a0a (v:= .bool true) (hall 6 (by omega) _ _ rfl rfl);have hfr:=hA.frame [T,T,T,T,T,T,T,T,T,T,T,T,T,T,T,T,T,T,T,T,T,T,T,T,T,T,T,T,T,T,T,T,T,T,T,T,T,T,T,T,T,T,T,T,T,T,T,T,T,T,T,T,T,T,T,T,T,T,T,T,T,T,T,T,T,T,T,T,T,T,T,T,T,T,T,T,T,T,T,T,T,T,T,T,T,T,T,T,T,T,T,T,T,T,T,T,T,T,T,T,T,T,T,T,T,T,T,T,T,T,T,T,T,T,T,T,T,T,T,T,T,T,T,T,T,T,T,T,F,F,F,F,F,F,F,T,T,T,T,T,T,T,T,T,T] _ rfl (by kernel_rfl);clear hall hA;obtain⟨f,hf⟩:∃f:Nat→Value,(fun k=>bb.tmps.getD k undef)=f:=⟨_,rfl⟩;have g134:f 134= .bool true:=by rw[←hf];simpa using h134
        rw[hf] at hfr;clear hf h134;subst hfr;simp only[a2a,g134,Nat.reduceAdd];clear g134;simp only[List.drop_succ_cons,List.drop_zero];have hbM:=hM.1.bel;have hr9:=a1k hrow8 hM.2;go_wp2_with fail;go_roundw
        case rel=>exact⟨i+1,by omega,by go_num,by rw[hst2.out],by rw[hst2.out];exact hr9,hbM⟩
        case measure=>first|(simp[intOf];done)|(simp[intOf];omega)
      ·simp only[if_true] at hst2
       replace hst2:=Lib.hid hst2;clear hpi' hrow7 hLw hb157 hb8 hDw hLo7;go_wp2_with (first
        |(at_builtin;refine El.all a6s d1w (by rfl) _ _ (by rfl) w15.heap.size (by rfl) C hrow8 L (by rfl) hLw8 hFw (by omega) hz8 ?_;intro v9 w9 hr9 hb9)
        |fail)
       go_roundw
       case rel=>exact⟨i+1,by omega,by go_num,by rw[hst2.out],by rw[hst2.out];exact hr9,hb158.trans hb9⟩
       case measure=>first|(simp[intOf];done)|(simp[intOf];omega)
   ·obtain rfl:i=S.length:=by omega
    have hge:¬(ids.length:Int)<(ids.length:Int):=by omega
    have hLor:=hLo15.up hbr;have hbwr:=hbw15.trans (hbr.mono hbw15.size);have hie:(S.length:Int)=(ids.length:Int):=by omega
    rw[hie];clear hidl' hSl' hie hrow hlt hi;go_upto_region 30 with fail;refine Go.wp_region_relg 8 (by kernel_rfl) (by kernel_rfl) (fun _ W=>LoR w15 (n2+1+1) bp bq s.g dv kv lv dv2 kv2 lv2 pl.dots pl2.dots W∧Below wr.heap.size wr W) (fun w w'=>Below w.heap.size w w') (FLw (n2+1+1) bp bq s.g 0 dv kv lv dv2 kv2 lv2 pl.dots pl2.dots) (fun _ _ _ _ h g=>h.kept g) ⟨hLor.up (zR _ _).drew,(zR _ _).drew⟩ ?step30 ?tail30
    case step30 =>
     have hsame:=hkin.out;intro i o hi ho c bb W hc hM2 hA hD K hK;obtain⟨hM,hbM⟩:=hM2;match i,hi,ho with
     |0,_,ho =>
      cases ho;have f5:=a0a (v:= .bool true) (hA.at_ (k:=5) (by kernel_rfl));go_simp;exact hK (.bool true) W rfl (zR _ _) ⟨hM,hbM⟩
     |1,_,ho =>
      cases ho;have f137:=a0a (v:= .bool true) (a0e hD 0 137 (by kernel_rfl) rfl rfl);go_simp;exact hK (.bool true) W rfl (zR _ _) ⟨hM,hbM⟩
     |2,_,ho =>
      cases ho;have e138:bb.tmps[138]? =some (.bool true):=a1e (v:= .bool true) (a0e hD 1 138 (by kernel_rfl) rfl rfl) (by rw[hA.size];exact Nat.le_of_ble_eq_true (by kernel_rfl));have f11:=a0a (v:= .pointer (some ⟨bp,0,none⟩)) (hA.at_ (k:=11) (by kernel_rfl));have z0:W.cell? ⟨bp,0,none⟩=some (dv):=hM.p.1;have z1:W.cell? ⟨bp,1,none⟩=some (kv):=hM.p.2.1;have z2:W.cell? ⟨bp,2,none⟩=some (lv):=hM.p.2.2;go_simp;exact hK (.agg #[dv,kv,lv]) W rfl (zR _ _) ⟨hM,hbM⟩
     |3,_,ho =>
      cases ho;have e138:bb.tmps[138]? =some (.bool true):=a1e (v:= .bool true) (a0e hD 1 138 (by kernel_rfl) rfl rfl) (by rw[hA.size];exact Nat.le_of_ble_eq_true (by kernel_rfl));have f139:=a0a (v:= .agg #[dv,kv,lv]) (a0e hD 2 139 (by kernel_rfl) rfl rfl);go_simp;go_at_call 28;with_reducible refine (c5x _ _ _ pl.dots 2 _ hM.d (by omega)).mono ?_
      rintro e w9⟨v9,rfl,hr9,hb9⟩;go_simp;exact hK v9 w9 (a3v hr9 (by have:=c1i pl.dots 2;omega) (b8a hfD)) hb9 ⟨hM.up hb9,hbM.trans (hb9.mono hbM.size)⟩
     |4,_,ho =>
      cases ho;have e138:bb.tmps[138]? =some (.bool true):=a1e (v:= .bool true) (a0e hD 1 138 (by kernel_rfl) rfl rfl) (by rw[hA.size];exact Nat.le_of_ble_eq_true (by kernel_rfl));have f13:=a0a (v:= .pointer (some ⟨bq,0,none⟩)) (hA.at_ (k:=13) (by kernel_rfl));have z0:W.cell? ⟨bq,0,none⟩=some (dv2):=hM.q.1;have z1:W.cell? ⟨bq,1,none⟩=some (kv2):=hM.q.2.1;have z2:W.cell? ⟨bq,2,none⟩=some (lv2):=hM.q.2.2;go_simp;exact hK (.agg #[dv2,kv2,lv2]) W rfl (zR _ _) ⟨hM,hbM⟩
     |5,_,ho =>
      cases ho;have e138:bb.tmps[138]? =some (.bool true):=a1e (v:= .bool true) (a0e hD 1 138 (by kernel_rfl) rfl rfl) (by rw[hA.size];exact Nat.le_of_ble_eq_true (by kernel_rfl));have f141:=a0a (v:= .agg #[dv2,kv2,lv2]) (a0e hD 4 141 (by kernel_rfl) rfl rfl);go_simp;go_at_call 28;with_reducible refine (c5x _ _ _ pl2.dots 2 _ hM.d2 (by omega)).mono ?_
      rintro e w9⟨v9,rfl,hr9,hb9⟩;go_simp;exact hK v9 w9 (a3v hr9 (by have:=c1i pl2.dots 2;omega) (b8a hfD2)) hb9 ⟨hM.up hb9,hbM.trans (hb9.mono hbM.size)⟩
     |6,_,ho =>
      cases ho;have e138:bb.tmps[138]? =some (.bool true):=a1e (v:= .bool true) (a0e hD 1 138 (by kernel_rfl) rfl rfl) (by rw[hA.size];exact Nat.le_of_ble_eq_true (by kernel_rfl));have f140:=a0e hD 3 140 (by kernel_rfl) rfl rfl;have f142:=a0e hD 5 142 (by kernel_rfl) rfl rfl;obtain⟨d1_,hd1_⟩:∃d,bb.tmps[140]?.getD undef=d:=⟨_,rfl⟩;have hD1_:Dts W.heap.size W d1_ (a4c pl.dots 2):=by rw[←hd1_,a0a (v:=bb.eval (.tmp 140)) rfl];exact f140
      obtain⟨d2_,hd2_⟩:∃d,bb.tmps[142]?.getD undef=d:=⟨_,rfl⟩;have hD2_:Dts W.heap.size W d2_ (a4c pl2.dots 2):=by rw[←hd2_,a0a (v:=bb.eval (.tmp 142)) rfl];exact f142
      clear f140 f142;go_simp;go_at_call 26;with_reducible refine (c1g _ _ _ _ _ hD1_ hD2_).mono ?_
      rintro e w9⟨rfl,hb9⟩;rw[decide_eq_true hsame];go_simp;exact hK (.bool true) w9 rfl hb9 ⟨hM.up hb9,hbM.trans (hb9.mono hbM.size)⟩
     |7,_,ho =>
      cases ho;have f138:=a0a (v:= .bool true) (a0e hD 1 138 (by kernel_rfl) rfl rfl);have f143:=a0a (v:= .bool true) (a0e hD 6 143 (by kernel_rfl) rfl rfl);go_simp;exact hK (.bool true) W rfl (zR _ _) ⟨hM,hbM⟩
     |i+8,hi,_=>exact absurd hi (by omega)
    case tail30 =>
     intro bb W hM hA hall;have h144:bb.tmps[144]?.getD undef= .bool true:=a0a (v:= .bool true) (hall 7 (by omega) _ _ rfl rfl);have hfr:=hA.frame [T,T,T,T,T,T,T,T,T,T,T,T,T,T,T,T,T,T,T,T,T,T,T,T,T,T,T,T,T,T,T,T,T,T,T,T,T,T,T,T,T,T,T,T,T,T,T,T,T,T,T,T,T,T,T,T,T,T,T,T,T,T,T,T,T,T,T,T,T,T,T,T,T,T,T,T,T,T,T,T,T,T,T,T,T,T,T,T,T,T,T,T,T,T,T,T,T,T,T,T,T,T,T,T,T,T,T,T,T,T,T,T,T,T,T,T,T,T,T,T,T,T,T,T,T,T,T,T,T,T,T,T,T,T,T,T,T,F,F,F,F,F,F,F,F] _ rfl (by kernel_rfl);clear hall hA;obtain⟨f,hf⟩:∃f:Nat→Value,(fun k=>bb.tmps.getD k undef)=f:=⟨_,rfl⟩;have g144:f 144= .bool true:=by rw[←hf];simpa using h144
     rw[hf] at hfr;clear hf h144;subst hfr;simp only[a2a,g144,Nat.reduceAdd];clear g144;simp only[List.drop_succ_cons,List.drop_zero];have hbM:=hM.1.bel;go_wp2_with fail;go_ret;exact⟨rfl,hbw15.trans (hbM.mono hbw15.size)⟩
end
end Go.Proofs.YtfocdbjceedagaaGreatDoor
