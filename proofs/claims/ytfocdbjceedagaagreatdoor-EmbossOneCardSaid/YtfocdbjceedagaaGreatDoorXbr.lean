/-
  Parts.
-/
import Derived.Test.YtfocdbjceedagaaGreatDoorXbm
set_option linter.unusedVariables false
set_option linter.unusedSimpArgs false
set_option maxHeartbeats 60000000
set_option maxRecDepth 100000
namespace Go.Proofs.YtfocdbjceedagaaGreatDoor
open Tryz
section
open Go Go.RowKit Go.Shelf
attribute [local go_sem] Oper.semAt_some
attribute [local go_sem ↓] Go.wp_at_zero Go.wp_at_succ
theorem b7r:a0q 7:=by
 unfold a0q;intro U w ev fv wv pv ne nf nw l hI q0 q1 q2 fq0 fq1 fq2 hcase;have hnf:=hI.nf;have hne:=hI.ne;have hnw:=hI.nw;have hnp:=hI.np;go_enter func31,ntmps31;go_upto_region 1 with fail;refine a0g (fun W1 hW1=> ?_);have h1:=(((OY.init (TW.none w)).box #[ev,fv,wv,pv] 37).box (qC q0 q1 q2) 23).box #[.slice none 0 0,.slice none 0 0,.slice none 0 0,.slice none 0 0] 37;obtain⟨ea,ec,rfl,hec⟩:=hI.e.form;obtain⟨fa,fc,rfl,hfc⟩:=hI.f.form;obtain⟨wa,wc,rfl,hwc⟩:=hI.w.form;obtain⟨pa,pc,rfl,hpc⟩:=hI.p.form;obtain⟨BM,hBM⟩:∃b,w.heap.size=b:=⟨_,rfl⟩;simp only[World.size_alloc] at h1;rw[←hW1,hBM] at h1;rw[hBM];obtain⟨BQ,hBQ⟩:∃b,BM+1=b:=⟨_,rfl⟩;obtain⟨BR,hBR⟩:∃b,BM+1+1=b:=⟨_,rfl⟩;rw[hBR,hBQ] at h1;rw[hBR,hBQ];have hI1:=hI.up h1.bel;obtain⟨m0,m1,m2,m3⟩:=a0l h1.b2;clear hW1;go_upto_region 2 with (first
  |(go_at_call 76;(with_reducible refine (a1j U W1 _ _ _ _ ne nf nw l hI1).mono ?_);rintro e WC⟨SC,ev1,fv1,wv1,pv1,rfl,hR,hev⟩;obtain⟨ea1,ec1,rfl,hec1⟩:=hR.e.form;obtain⟨fa1,fc1,rfl,hfc1⟩:=hR.f.form;obtain⟨wa1,wc1,rfl,hwc1⟩:=hR.w.form;obtain⟨pa1,pc1,rfl,hpc1⟩:=(a0b a2l hR.row (by omega)).form)
  |fail)
 have hSn:∀b,SC b→w.heap.size≤b:=fun b hb=>(hev.new b hb).elim (fun h=>h.elim) (fun h=>Nat.le_trans h1.size h)
 have hPC:OP noB w _ WC _ _ _ l:=⟨((((h1.evn hev).add (a0z hR.w)).add (a0z hR.f)).add (a0z hR.e)),a1v hR.row h1.size,fun g hg hs=>hs.elim (fun h=>h.elim) (fun h=>hR.off g hg h),by simp⟩;refine a0g (fun WD hWD=> ?_);have hPD:=hPC.box #[.slice ea1 ne ec1,.slice fa1 nf fc1,.slice wa1 nw wc1,.slice pa1 l.length pc1] 37 (by decide);obtain⟨BO,hBO⟩:∃b,WC.heap.size=b:=⟨_,rfl⟩;rw[←hWD,hBO] at hPD;rw[hBO];have hO:OO w BO BR BQ BM q0 q1 q2 _ _ WD _ _ _ _ ne nf nw l:=⟨hPD,a0y hR.e hSn,a0y hR.f hSn,a0y hR.w hSn⟩;clear hPD hPC hR hev hSn hWD hBO h1 hI1 m0 m1 m2 m3;obtain⟨S9,hS9⟩:∃S:BS,(fun b=>False∨SC b)=S:=⟨_,rfl⟩;rw[hS9] at hO;clear hS9 hI;obtain⟨n,hn,hn60⟩:∃n:Nat,q1 % 60=(n:Int)∧n<60:=⟨(q1 % 60).toNat,by omega,by omega⟩;obtain⟨k,hk,hk64⟩:∃n:Nat,q2 % 64=(n:Int)∧n<64:=⟨(q2 % 64).toNat,by omega,by omega⟩;obtain⟨r,hr,hr17⟩:∃n:Nat,q0 % 17=(n:Int)∧n<17:=⟨(q0 % 17).toNat,by omega,by omega⟩;have hrN:=Lib.hid (show r=7 by omega);clear hcase;have hm1:=a0p q1 60 WD fq1 (by decide) (by decide);have hm2:=a0p q2 64 WD fq2 (by decide) (by decide);have hm3:=a0p q0 17 WD fq0 (by decide) (by decide);rw[hn] at hm1;rw[hk] at hm2;rw[hr] at hm3;obtain⟨i0,i1,i2⟩:WD.cell? ⟨BQ,0,none⟩=some (.int .i64 q0)∧WD.cell? ⟨BQ,1,none⟩=some (.int .i64 q1)∧WD.cell? ⟨BQ,2,none⟩=some (.int .i64 q2):=⟨hO.p.b.b2.cell 0,hO.p.b.b2.cell 1,hO.p.b.b2.cell 2⟩;go_upto_block 0 with (first
  |(go_at_call 77;(with_reducible refine hm1.mono ?_);rintro e W'⟨rfl,rfl⟩)
  |(go_at_call 77;(with_reducible refine hm2.mono ?_);rintro e W'⟨rfl,rfl⟩)
  |(go_at_call 77;(with_reducible refine hm3.mono ?_);rintro e W'⟨rfl,rfl⟩)
  |fail)
 clear hm1 hm2 hm3 hr hn hk hBM hBQ hBR;generalize hM0: #[Value.slice ea ne ec,.slice fa nf fc,.slice wa nw wc,.slice pa l.length pc]=M0 at hO;go_cut [] (fun wx=>∃S ev' fv' wv' pv' ne' nf' nw' l',OO w BO BR BQ BM q0 q1 q2 M0 S wx ev' fv' wv' pv' ne' nf' nw' l'∧OddR ne nf nw l ne' nf' nw' l')
 case rest =>
  obtain⟨S',ev',fv',wv',pv',ne',nf',nw',l',hO',hR⟩:=hcut;obtain⟨e1,c1,rfl,-⟩:=hO'.p.b.s0.form;obtain⟨e2,c2,rfl,-⟩:=hO'.p.b.s1.form;obtain⟨e3,c3,rfl,-⟩:=hO'.p.b.s2.form;obtain⟨e4,c4,rfl,-⟩:=(a0b a2l hO'.p.row (by have:=hR.p;omega)).form;obtain⟨b0,b1,b2,b3⟩:=a0l hO'.p.b.b0;obtain⟨r0,r1,r2,r3⟩:=a0l hO'.p.b.b1;have z0:=hO'.p.b.b1.frozen 0;have z1:=hO'.p.b.b1.frozen 1;have z2:=hO'.p.b.b1.frozen 2;have z3:=hO'.p.b.b1.frozen 3;have hX:=((((hO'.p.tail.put (i:=0) (v:= .slice e1 ne' c1) rfl rfl).put (i:=1) (v:= .slice e2 nf' c2) rfl rfl).put (i:=2) (v:= .slice e3 nw' c3) rfl rfl).put (i:=3) (v:= .slice e4 l'.length c4) (c':= #[.slice e1 ne' c1,.slice e2 nf' c2,.slice e3 nw' c3,.slice e4 l'.length c4]) rfl rfl);go_wp2_with fail;exact bodyPost_ret (results_cell_row (by rfl) _ _ BR 37 _ (0,0) _ (by rfl) hX.b.b0 underlying37 (by rfl) (by kernel_rfl)) rfl ⟨S',_,_,_,_,ne',nf',nw',l',rfl,⟨hX.b.s0,hX.b.s1,hX.b.s2,hX.row,hX.off⟩,hR,hX.b.o.ev⟩
 case first =>
  obtain⟨b0,b1,b2,b3⟩:=a0l hO.p.b.b0;clear hM0;obtain rfl:=hrN.out;by_cases hw0:nw=0
  ·subst hw0
   go_wp2_with fail;go_meet;exact⟨_,_,_,_,_,_,_,_,_,hO,OddR.refl _ _ _ _⟩
  obtain⟨p,hp,hpw⟩:∃p:Nat,Int.tmod (k:Int) (nw:Int)=(p:Int)∧p<nw:=⟨k % nw,by rw[Int.tmod_eq_emod_of_nonneg (by omega)];omega,Nat.mod_lt _ (by omega)⟩;have hpI:(p:Int)<(nw:Int):=by omega
  have hwI:(0:Int)<(nw:Int):=by omega
  have hwI2:((nw:Int)==0)=false:=by simpa using hw0
  obtain⟨wb,wo,wc',heq,hwc',-⟩:=hO.p.b.s2.some_ (by omega)
  cases heq;obtain⟨id,lv,m,lev,cs,ns,st,wt,ds,c0,c1,c2,c3,c4,c5,c6,c7,f0,hlv,hm,f2,f3,f4,f6,f7⟩:=SL.way hO.p.b.tw hO.p.b.s2 hpw;have hst:=fun i ct h u hu=>hO.p.store a4b hO.p.b.s2 hO.ow p i ct h u hu
  have z9:WD.frozen? ⟨wb,wo+p*8+2,none⟩=false:=(hst 2 .int rfl (.int .i64 0) (CT.ok_int (by decide))).2;have hX:=fun u hu=>(hst 2 .int rfl u hu).1
  clear hst;go_upto_region 27 with fail;first|with_reducible refine a0c 10 (by kernel_rfl) (by kernel_rfl) ?_|with_reducible refine a0d 10 (by kernel_rfl) (by kernel_rfl) ?_
  simp only[List.take_succ_cons,List.take_zero,List.drop_succ_cons,List.drop_zero];repeat (first|go_big_quiet_step (fail)|quiet_step (fail))
  refine wpQuiet_nil ?_;intro _ hw_;obtain⟨p,hw_⟩:=hw_;subst hw_;go_wp2_with fail;go_meet;exact⟨_,_,_,_,_,_,_,_,_,⟨(hX _ (CT.ok_int (by first|exact a0j _|exact a0m _|exact⟨by omega,by omega⟩))).up (Go.below_growBy _ _),hO.oe,hO.of,hO.ow⟩,OddR.refl _ _ _ _⟩
theorem b7s:a0q 8:=by
 unfold a0q;intro U w ev fv wv pv ne nf nw l hI q0 q1 q2 fq0 fq1 fq2 hcase;have hnf:=hI.nf;have hne:=hI.ne;have hnw:=hI.nw;have hnp:=hI.np;go_enter func31,ntmps31;go_upto_region 1 with fail;refine a0g (fun W1 hW1=> ?_);have h1:=(((OY.init (TW.none w)).box #[ev,fv,wv,pv] 37).box (qC q0 q1 q2) 23).box #[.slice none 0 0,.slice none 0 0,.slice none 0 0,.slice none 0 0] 37;obtain⟨ea,ec,rfl,hec⟩:=hI.e.form;obtain⟨fa,fc,rfl,hfc⟩:=hI.f.form;obtain⟨wa,wc,rfl,hwc⟩:=hI.w.form;obtain⟨pa,pc,rfl,hpc⟩:=hI.p.form;obtain⟨BM,hBM⟩:∃b,w.heap.size=b:=⟨_,rfl⟩;simp only[World.size_alloc] at h1;rw[←hW1,hBM] at h1;rw[hBM];obtain⟨BQ,hBQ⟩:∃b,BM+1=b:=⟨_,rfl⟩;obtain⟨BR,hBR⟩:∃b,BM+1+1=b:=⟨_,rfl⟩;rw[hBR,hBQ] at h1;rw[hBR,hBQ];have hI1:=hI.up h1.bel;obtain⟨m0,m1,m2,m3⟩:=a0l h1.b2;clear hW1;go_upto_region 2 with (first
  |(go_at_call 76;(with_reducible refine (a1j U W1 _ _ _ _ ne nf nw l hI1).mono ?_);rintro e WC⟨SC,ev1,fv1,wv1,pv1,rfl,hR,hev⟩;obtain⟨ea1,ec1,rfl,hec1⟩:=hR.e.form;obtain⟨fa1,fc1,rfl,hfc1⟩:=hR.f.form;obtain⟨wa1,wc1,rfl,hwc1⟩:=hR.w.form;obtain⟨pa1,pc1,rfl,hpc1⟩:=(a0b a2l hR.row (by omega)).form)
  |fail)
 have hSn:∀b,SC b→w.heap.size≤b:=fun b hb=>(hev.new b hb).elim (fun h=>h.elim) (fun h=>Nat.le_trans h1.size h)
 have hPC:OP noB w _ WC _ _ _ l:=⟨((((h1.evn hev).add (a0z hR.w)).add (a0z hR.f)).add (a0z hR.e)),a1v hR.row h1.size,fun g hg hs=>hs.elim (fun h=>h.elim) (fun h=>hR.off g hg h),by simp⟩;refine a0g (fun WD hWD=> ?_);have hPD:=hPC.box #[.slice ea1 ne ec1,.slice fa1 nf fc1,.slice wa1 nw wc1,.slice pa1 l.length pc1] 37 (by decide);obtain⟨BO,hBO⟩:∃b,WC.heap.size=b:=⟨_,rfl⟩;rw[←hWD,hBO] at hPD;rw[hBO];have hO:OO w BO BR BQ BM q0 q1 q2 _ _ WD _ _ _ _ ne nf nw l:=⟨hPD,a0y hR.e hSn,a0y hR.f hSn,a0y hR.w hSn⟩;clear hPD hPC hR hev hSn hWD hBO h1 hI1 m0 m1 m2 m3;obtain⟨S9,hS9⟩:∃S:BS,(fun b=>False∨SC b)=S:=⟨_,rfl⟩;rw[hS9] at hO;clear hS9 hI;obtain⟨n,hn,hn60⟩:∃n:Nat,q1 % 60=(n:Int)∧n<60:=⟨(q1 % 60).toNat,by omega,by omega⟩;obtain⟨k,hk,hk64⟩:∃n:Nat,q2 % 64=(n:Int)∧n<64:=⟨(q2 % 64).toNat,by omega,by omega⟩;obtain⟨r,hr,hr17⟩:∃n:Nat,q0 % 17=(n:Int)∧n<17:=⟨(q0 % 17).toNat,by omega,by omega⟩;have hrN:=Lib.hid (show r=8 by omega);clear hcase;have hm1:=a0p q1 60 WD fq1 (by decide) (by decide);have hm2:=a0p q2 64 WD fq2 (by decide) (by decide);have hm3:=a0p q0 17 WD fq0 (by decide) (by decide);rw[hn] at hm1;rw[hk] at hm2;rw[hr] at hm3;obtain⟨i0,i1,i2⟩:WD.cell? ⟨BQ,0,none⟩=some (.int .i64 q0)∧WD.cell? ⟨BQ,1,none⟩=some (.int .i64 q1)∧WD.cell? ⟨BQ,2,none⟩=some (.int .i64 q2):=⟨hO.p.b.b2.cell 0,hO.p.b.b2.cell 1,hO.p.b.b2.cell 2⟩;go_upto_block 0 with (first
  |(go_at_call 77;(with_reducible refine hm1.mono ?_);rintro e W'⟨rfl,rfl⟩)
  |(go_at_call 77;(with_reducible refine hm2.mono ?_);rintro e W'⟨rfl,rfl⟩)
  |(go_at_call 77;(with_reducible refine hm3.mono ?_);rintro e W'⟨rfl,rfl⟩)
  |fail)
 clear hm1 hm2 hm3 hr hn hk hBM hBQ hBR;generalize hM0: #[Value.slice ea ne ec,.slice fa nf fc,.slice wa nw wc,.slice pa l.length pc]=M0 at hO;go_cut [] (fun wx=>∃S ev' fv' wv' pv' ne' nf' nw' l',OO w BO BR BQ BM q0 q1 q2 M0 S wx ev' fv' wv' pv' ne' nf' nw' l'∧OddR ne nf nw l ne' nf' nw' l')
 case rest =>
  obtain⟨S',ev',fv',wv',pv',ne',nf',nw',l',hO',hR⟩:=hcut;obtain⟨e1,c1,rfl,-⟩:=hO'.p.b.s0.form;obtain⟨e2,c2,rfl,-⟩:=hO'.p.b.s1.form;obtain⟨e3,c3,rfl,-⟩:=hO'.p.b.s2.form;obtain⟨e4,c4,rfl,-⟩:=(a0b a2l hO'.p.row (by have:=hR.p;omega)).form;obtain⟨b0,b1,b2,b3⟩:=a0l hO'.p.b.b0;obtain⟨r0,r1,r2,r3⟩:=a0l hO'.p.b.b1;have z0:=hO'.p.b.b1.frozen 0;have z1:=hO'.p.b.b1.frozen 1;have z2:=hO'.p.b.b1.frozen 2;have z3:=hO'.p.b.b1.frozen 3;have hX:=((((hO'.p.tail.put (i:=0) (v:= .slice e1 ne' c1) rfl rfl).put (i:=1) (v:= .slice e2 nf' c2) rfl rfl).put (i:=2) (v:= .slice e3 nw' c3) rfl rfl).put (i:=3) (v:= .slice e4 l'.length c4) (c':= #[.slice e1 ne' c1,.slice e2 nf' c2,.slice e3 nw' c3,.slice e4 l'.length c4]) rfl rfl);go_wp2_with fail;exact bodyPost_ret (results_cell_row (by rfl) _ _ BR 37 _ (0,0) _ (by rfl) hX.b.b0 underlying37 (by rfl) (by kernel_rfl)) rfl ⟨S',_,_,_,_,ne',nf',nw',l',rfl,⟨hX.b.s0,hX.b.s1,hX.b.s2,hX.row,hX.off⟩,hR,hX.b.o.ev⟩
 case first =>
  obtain⟨b0,b1,b2,b3⟩:=a0l hO.p.b.b0;clear hM0;obtain rfl:=hrN.out;by_cases hw0:nw=0
  ·subst hw0
   go_wp2_with fail;go_meet;exact⟨_,_,_,_,_,_,_,_,_,hO,OddR.refl _ _ _ _⟩
  obtain⟨ix,hp,hpw⟩:∃ix:Nat,Int.tmod (k:Int) (nw:Int)=(ix:Int)∧ix<nw:=⟨k % nw,by rw[Int.tmod_eq_emod_of_nonneg (by omega)];omega,Nat.mod_lt _ (by omega)⟩;have hpI:(ix:Int)<(nw:Int):=by omega
  have hwI:(0:Int)<(nw:Int):=by omega
  have hwI2:((nw:Int)==0)=false:=by simpa using hw0
  obtain⟨wb,wo,wc',heq,hwc',-⟩:=hO.p.b.s2.some_ (by omega)
  cases heq;have hj1:IntKind.i64.wrap ((ix:Int)+1)=(ix:Int)+1:=a0u (by omega) (by omega);have hj2:(ix:Int)+1≤(nw:Int):=by omega
  have hj3:((ix:Int)+1).toNat=ix+1:=by omega
  have hj4:(ix:Int)≤(wc1:Int):=by omega
  go_upto_region 30 with fail;first|with_reducible refine a0c 17 (by kernel_rfl) (by kernel_rfl) ?_|with_reducible refine a0d 17 (by kernel_rfl) (by kernel_rfl) ?_
  simp only[List.take_succ_cons,List.take_zero,List.drop_succ_cons,List.drop_zero];repeat (first|go_big_quiet_step (fail)|quiet_step (fail))
  refine wpQuiet_nil ?_;intro _ hw_;obtain⟨p,hw_⟩:=hw_;subst hw_;have hPw:=hO.p.up (Go.below_growBy WD p);refine hPw.append_l (n:=ix) (m:=nw-(ix+1)) (by rfl) _ _ 34 (by rfl) underlying34 a4b (by rfl) (hPw.b.s2.take (by omega)) (Own.sliceG hO.ow ix) (by rfl) ?hx (by omega) ?_
  case hx =>
   go_simp;by_cases h9:wc1=ix+1
   ·rw[if_pos h9]
    exact SL.drop rfl hPw.b.s2 (by omega) (.inr ⟨h9.symm,rfl⟩)
   ·rw[if_neg h9]
    exact SL.drop rfl hPw.b.s2 (by omega) (.inl rfl)
  intro e9 S' W' hP' hown';obtain⟨a9,c9,rfl,-⟩:=hP'.b.s0.form;have d2:=hP'.b.b0.cell 2;have z2:=hP'.b.b0.frozen 2;have hQ:=hP'.put (i:=2) (v:= .slice a9 (ix+(nw-(ix+1))) c9) rfl rfl;go_wp2_with fail
  all_goals go_meet
  all_goals exact⟨S',_,_,_,_,ne,nf,ix+(nw-(ix+1)),l,⟨hQ.sub (by simp),hO.oe,hO.of,hown'⟩,⟨by omega,by omega,by omega,by omega,by omega,fun h=>h,fun h=>h⟩⟩
theorem b7t:a0q 9:=by
 unfold a0q;intro U w ev fv wv pv ne nf nw l hI q0 q1 q2 fq0 fq1 fq2 hcase;have hnf:=hI.nf;have hne:=hI.ne;have hnw:=hI.nw;have hnp:=hI.np;go_enter func31,ntmps31;go_upto_region 1 with fail;refine a0g (fun W1 hW1=> ?_);have h1:=(((OY.init (TW.none w)).box #[ev,fv,wv,pv] 37).box (qC q0 q1 q2) 23).box #[.slice none 0 0,.slice none 0 0,.slice none 0 0,.slice none 0 0] 37;obtain⟨ea,ec,rfl,hec⟩:=hI.e.form;obtain⟨fa,fc,rfl,hfc⟩:=hI.f.form;obtain⟨wa,wc,rfl,hwc⟩:=hI.w.form;obtain⟨pa,pc,rfl,hpc⟩:=hI.p.form;obtain⟨BM,hBM⟩:∃b,w.heap.size=b:=⟨_,rfl⟩;simp only[World.size_alloc] at h1;rw[←hW1,hBM] at h1;rw[hBM];obtain⟨BQ,hBQ⟩:∃b,BM+1=b:=⟨_,rfl⟩;obtain⟨BR,hBR⟩:∃b,BM+1+1=b:=⟨_,rfl⟩;rw[hBR,hBQ] at h1;rw[hBR,hBQ];have hI1:=hI.up h1.bel;obtain⟨m0,m1,m2,m3⟩:=a0l h1.b2;clear hW1;go_upto_region 2 with (first
  |(go_at_call 76;(with_reducible refine (a1j U W1 _ _ _ _ ne nf nw l hI1).mono ?_);rintro e WC⟨SC,ev1,fv1,wv1,pv1,rfl,hR,hev⟩;obtain⟨ea1,ec1,rfl,hec1⟩:=hR.e.form;obtain⟨fa1,fc1,rfl,hfc1⟩:=hR.f.form;obtain⟨wa1,wc1,rfl,hwc1⟩:=hR.w.form;obtain⟨pa1,pc1,rfl,hpc1⟩:=(a0b a2l hR.row (by omega)).form)
  |fail)
 have hSn:∀b,SC b→w.heap.size≤b:=fun b hb=>(hev.new b hb).elim (fun h=>h.elim) (fun h=>Nat.le_trans h1.size h)
 have hPC:OP noB w _ WC _ _ _ l:=⟨((((h1.evn hev).add (a0z hR.w)).add (a0z hR.f)).add (a0z hR.e)),a1v hR.row h1.size,fun g hg hs=>hs.elim (fun h=>h.elim) (fun h=>hR.off g hg h),by simp⟩;refine a0g (fun WD hWD=> ?_);have hPD:=hPC.box #[.slice ea1 ne ec1,.slice fa1 nf fc1,.slice wa1 nw wc1,.slice pa1 l.length pc1] 37 (by decide);obtain⟨BO,hBO⟩:∃b,WC.heap.size=b:=⟨_,rfl⟩;rw[←hWD,hBO] at hPD;rw[hBO];have hO:OO w BO BR BQ BM q0 q1 q2 _ _ WD _ _ _ _ ne nf nw l:=⟨hPD,a0y hR.e hSn,a0y hR.f hSn,a0y hR.w hSn⟩;clear hPD hPC hR hev hSn hWD hBO h1 hI1 m0 m1 m2 m3;obtain⟨S9,hS9⟩:∃S:BS,(fun b=>False∨SC b)=S:=⟨_,rfl⟩;rw[hS9] at hO;clear hS9 hI;obtain⟨n,hn,hn60⟩:∃n:Nat,q1 % 60=(n:Int)∧n<60:=⟨(q1 % 60).toNat,by omega,by omega⟩;obtain⟨k,hk,hk64⟩:∃n:Nat,q2 % 64=(n:Int)∧n<64:=⟨(q2 % 64).toNat,by omega,by omega⟩;obtain⟨r,hr,hr17⟩:∃n:Nat,q0 % 17=(n:Int)∧n<17:=⟨(q0 % 17).toNat,by omega,by omega⟩;have hrN:=Lib.hid (show r=9 by omega);clear hcase;have hm1:=a0p q1 60 WD fq1 (by decide) (by decide);have hm2:=a0p q2 64 WD fq2 (by decide) (by decide);have hm3:=a0p q0 17 WD fq0 (by decide) (by decide);rw[hn] at hm1;rw[hk] at hm2;rw[hr] at hm3;obtain⟨i0,i1,i2⟩:WD.cell? ⟨BQ,0,none⟩=some (.int .i64 q0)∧WD.cell? ⟨BQ,1,none⟩=some (.int .i64 q1)∧WD.cell? ⟨BQ,2,none⟩=some (.int .i64 q2):=⟨hO.p.b.b2.cell 0,hO.p.b.b2.cell 1,hO.p.b.b2.cell 2⟩;go_upto_block 0 with (first
  |(go_at_call 77;(with_reducible refine hm1.mono ?_);rintro e W'⟨rfl,rfl⟩)
  |(go_at_call 77;(with_reducible refine hm2.mono ?_);rintro e W'⟨rfl,rfl⟩)
  |(go_at_call 77;(with_reducible refine hm3.mono ?_);rintro e W'⟨rfl,rfl⟩)
  |fail)
 clear hm1 hm2 hm3 hr hn hk hBM hBQ hBR;generalize hM0: #[Value.slice ea ne ec,.slice fa nf fc,.slice wa nw wc,.slice pa l.length pc]=M0 at hO;go_cut [] (fun wx=>∃S ev' fv' wv' pv' ne' nf' nw' l',OO w BO BR BQ BM q0 q1 q2 M0 S wx ev' fv' wv' pv' ne' nf' nw' l'∧OddR ne nf nw l ne' nf' nw' l')
 case rest =>
  obtain⟨S',ev',fv',wv',pv',ne',nf',nw',l',hO',hR⟩:=hcut;obtain⟨e1,c1,rfl,-⟩:=hO'.p.b.s0.form;obtain⟨e2,c2,rfl,-⟩:=hO'.p.b.s1.form;obtain⟨e3,c3,rfl,-⟩:=hO'.p.b.s2.form;obtain⟨e4,c4,rfl,-⟩:=(a0b a2l hO'.p.row (by have:=hR.p;omega)).form;obtain⟨b0,b1,b2,b3⟩:=a0l hO'.p.b.b0;obtain⟨r0,r1,r2,r3⟩:=a0l hO'.p.b.b1;have z0:=hO'.p.b.b1.frozen 0;have z1:=hO'.p.b.b1.frozen 1;have z2:=hO'.p.b.b1.frozen 2;have z3:=hO'.p.b.b1.frozen 3;have hX:=((((hO'.p.tail.put (i:=0) (v:= .slice e1 ne' c1) rfl rfl).put (i:=1) (v:= .slice e2 nf' c2) rfl rfl).put (i:=2) (v:= .slice e3 nw' c3) rfl rfl).put (i:=3) (v:= .slice e4 l'.length c4) (c':= #[.slice e1 ne' c1,.slice e2 nf' c2,.slice e3 nw' c3,.slice e4 l'.length c4]) rfl rfl);go_wp2_with fail;exact bodyPost_ret (results_cell_row (by rfl) _ _ BR 37 _ (0,0) _ (by rfl) hX.b.b0 underlying37 (by rfl) (by kernel_rfl)) rfl ⟨S',_,_,_,_,ne',nf',nw',l',rfl,⟨hX.b.s0,hX.b.s1,hX.b.s2,hX.row,hX.off⟩,hR,hX.b.o.ev⟩
 case first =>
  obtain⟨b0,b1,b2,b3⟩:=a0l hO.p.b.b0;clear hM0;obtain rfl:=hrN.out;obtain⟨s,hs,htx⟩:=a6i k (by omega);have hOe:=hO.oe;have hOf:=hO.of;have hOw:=hO.ow;have hP:=hO.p;go_upto_region 32 with fail;clear hO i0 i1 i2 b0 b1 b2 b3;refine Go.wp_region_reln 20 (by kernel_rfl) (by kernel_rfl) (fun _ g W=>OP noB w g W [(BO,#[.slice ea1 ne ec1,.slice fa1 nf fc1,.slice wa1 nw wc1,.slice pa1 l.length pc1],37),(BR,mZ,37),(BQ,qC q0 q1 q2,23),(BM,M0,37)] [(206,.slice ea1 ne ec1,ne),(140,.slice fa1 nf fc1,nf),(149,.slice wa1 nw wc1,nw)] (.slice pa1 l.length pc1) l) (fun g W g' W'=>Ev noB g W g' W') (FG9 BO n k nw wa1 wc1 s) (fun _ _ _ _ _ _ h g=>h.kept g) S9 (hP.up (zR _ _).drew) ?_ ?_
  ·intro i o hi ho c bb g W hc hM hA hD K hK
   match i,hi,ho with
   |0,_,ho =>
    cases ho;have f5:=a0a (v:= .pointer (some ⟨BO,0,none⟩)) (hA.at_ (k:=5) (by kernel_rfl));go_simp;exact hK (.pointer (some ⟨BO,2,none⟩)) g W rfl (Ev.refl hM.b.tw) hM
   |1,_,ho =>
    cases ho;have f192:=a0a (v:= .pointer (some ⟨BO,2,none⟩)) (a0f hD 0 192 (by kernel_rfl) rfl rfl);have z0:W.cell? ⟨BO,2,none⟩=some (.slice wa1 nw wc1):=hM.b.b0.cell 2;go_simp;exact hK (.slice wa1 nw wc1) g W rfl (Ev.refl hM.b.tw) hM
   |2,_,ho =>
    cases ho;have f6:=a0a (v:= .int .i64 (n:Nat)) (hA.at_ (k:=6) (by kernel_rfl));go_simp;exact hK (.int .i64 (n:Nat)) g W rfl (Ev.refl hM.b.tw) hM
   |3,_,ho =>
    cases ho;have f194:=a0a (v:= .int .i64 (n:Nat)) (a0f hD 2 194 (by kernel_rfl) rfl rfl);go_simp;exact hK _ g W ⟨_,rfl,(by first|with_reducible (first|exact a0j _|exact a0m _|assumption|exact a0n (by omega))|exact⟨by omega,by omega⟩)⟩ (Ev.refl hM.b.tw) hM
   |4,_,ho =>
    cases ho;have f6:=a0a (v:= .int .i64 (n:Nat)) (hA.at_ (k:=6) (by kernel_rfl));go_simp;exact hK (.int .i64 (n:Nat)) g W rfl (Ev.refl hM.b.tw) hM
   |5,_,ho =>
    cases ho;have f196:=a0a (v:= .int .i64 (n:Nat)) (a0f hD 4 196 (by kernel_rfl) rfl rfl);go_simp;exact hK _ g W ⟨_,rfl,(by first|with_reducible (first|exact a0j _|exact a0m _|assumption|exact a0n (by omega))|exact⟨by omega,by omega⟩)⟩ (Ev.refl hM.b.tw) hM
   |6,_,ho =>
    cases ho;have f197:=a0f hD 5 197 (by kernel_rfl) rfl rfl;obtain⟨x197,e197,g197⟩:=f197;have f197:=a0a e197;go_simp;exact hK _ g W ⟨x197,rfl,g197⟩ (Ev.refl hM.b.tw) hM
   |7,_,ho =>
    cases ho;go_simp;exact hK (.agg #[.int .i64 55,.int .i64 65]) g W rfl (Ev.refl hM.b.tw) hM
   |8,_,ho =>
    cases ho;have f198:=a0f hD 6 198 (by kernel_rfl) rfl rfl;have f199:=a0a (v:= .agg #[.int .i64 55,.int .i64 65]) (a0f hD 7 199 (by kernel_rfl) rfl rfl);obtain⟨x198,e198,g198⟩:=f198;have f198:=a0a e198;have hTB:TB g W 26 #[.int .i64 x198,.int .i64 20,.int .i64 55,.int .i64 65]:=c0u (fun u hu=>(List.forall_mem_cons.2 ⟨⟨_,rfl,g198⟩,List.forall_mem_cons.2 ⟨⟨_,rfl,(by decide)⟩,List.forall_mem_cons.2 ⟨⟨_,rfl,(by decide)⟩,List.forall_mem_cons.2 ⟨⟨_,rfl,(by decide)⟩,fun _ h=>by simp at h⟩⟩⟩⟩:∀u∈[Value.int .i64 x198,.int .i64 20,.int .i64 55,.int .i64 65],∃x,u= .int .i64 x∧a0k x) u hu);have hE:=Ev.alloc (X:=noB) hM.b.tw hTB;go_simp;exact hK (.slice (some ⟨W.heap.size,0,none⟩) 2 2) _ _ (SL.blk (.inr rfl) (Blk.new _ _ _) (by show 2*2≤4;omega)) hE (hM.evo hE ((zR _ _).alloc hM.b.size _))
   |9,_,ho =>
    cases ho;have f7:=a0a (v:= .int .i64 (k:Nat)) (hA.at_ (k:=7) (by kernel_rfl));go_simp;exact hK (.int .i64 (k:Nat)) g W rfl (Ev.refl hM.b.tw) hM
   |10,_,ho =>
    cases ho;have f201:=a0a (v:= .int .i64 (k:Nat)) (a0f hD 9 201 (by kernel_rfl) rfl rfl);go_simp;exact hK _ g W ⟨_,rfl,(by first|with_reducible (first|exact a0j _|exact a0m _|assumption|exact a0n (by omega))|exact⟨by omega,by omega⟩)⟩ (Ev.refl hM.b.tw) hM
   |11,_,ho =>
    cases ho;have f7:=a0a (v:= .int .i64 (k:Nat)) (hA.at_ (k:=7) (by kernel_rfl));go_simp;exact hK (.int .i64 (k:Nat)) g W rfl (Ev.refl hM.b.tw) hM
   |12,_,ho =>
    cases ho;have f203:=a0a (v:= .int .i64 (k:Nat)) (a0f hD 11 203 (by kernel_rfl) rfl rfl);go_simp;refine (htx W).mono ?_;rintro e W'⟨rfl,hb⟩;go_simp;exact hK (.string s) g W' rfl (Ev.of_below hM.b.tw hb) (hM.up hb)
   |13,_,ho =>
    cases ho;have f6:=a0a (v:= .int .i64 (n:Nat)) (hA.at_ (k:=6) (by kernel_rfl));go_simp;exact hK (.int .i64 (n:Nat)) g W rfl (Ev.refl hM.b.tw) hM
   |14,_,ho =>
    cases ho;have f205:=a0a (v:= .int .i64 (n:Nat)) (a0f hD 13 205 (by kernel_rfl) rfl rfl);go_simp;exact hK _ g W ⟨_,rfl,(by first|with_reducible (first|exact a0j _|exact a0m _|assumption|exact a0n (by omega))|exact⟨by omega,by omega⟩)⟩ (Ev.refl hM.b.tw) hM
   |15,_,ho =>
    cases ho;have f7:=a0a (v:= .int .i64 (k:Nat)) (hA.at_ (k:=7) (by kernel_rfl));go_simp;exact hK (.int .i64 (k:Nat)) g W rfl (Ev.refl hM.b.tw) hM
   |16,_,ho =>
    cases ho;have f207:=a0a (v:= .int .i64 (k:Nat)) (a0f hD 15 207 (by kernel_rfl) rfl rfl);go_simp;exact hK _ g W ⟨_,rfl,(by first|with_reducible (first|exact a0j _|exact a0m _|assumption|exact a0n (by omega))|exact⟨by omega,by omega⟩)⟩ (Ev.refl hM.b.tw) hM
   |17,_,ho =>
    cases ho;have f208:=a0f hD 16 208 (by kernel_rfl) rfl rfl;obtain⟨x208,e208,g208⟩:=f208;have f208:=a0a e208;go_simp;exact hK _ g W ⟨_,rfl,(by first|with_reducible (first|exact a0j _|exact a0m _|assumption|exact a0n (by omega))|exact⟨by omega,by omega⟩)⟩ (Ev.refl hM.b.tw) hM
   |18,_,ho =>
    cases ho;have f195:=a0f hD 3 195 (by kernel_rfl) rfl rfl;obtain⟨x195,e195,g195⟩:=f195;have f195:=a0a e195;have f200:=a0f hD 8 200 (by kernel_rfl) rfl rfl;have f202:=a0f hD 10 202 (by kernel_rfl) rfl rfl;obtain⟨x202,e202,g202⟩:=f202;have f202:=a0a e202;have f204:=a0a (v:= .string s) (a0f hD 12 204 (by kernel_rfl) rfl rfl);have f206:=a0f hD 14 206 (by kernel_rfl) rfl rfl;obtain⟨x206,e206,g206⟩:=f206;have f206:=a0a e206;have f209:=a0f hD 17 209 (by kernel_rfl) rfl rfl;obtain⟨x209,e209,g209⟩:=f209;have f209:=a0a e209;obtain⟨sv,e200⟩:∃v,bb.eval (.tmp 200)=v:=⟨_,rfl⟩;rw[e200] at f200;have h200:SL g W 26 sv 2:=f200;obtain⟨a1,c1,rfl,-⟩:=h200.form;have f200:=a0a e200;go_simp;exact hK _ g W ⟨_,_,_,_,_,rfl,g195,g202,g206,g209,h200⟩ (Ev.refl hM.b.tw) hM
   |19,_,ho =>
    cases ho;have f210:=a0f hD 18 210 (by kernel_rfl) rfl rfl;obtain⟨a,lev,wt,ds,sv,e210,ha,hlev,hwt,hds,hsv⟩:=f210;obtain⟨a1,c1,rfl,-⟩:=hsv.form;have f210:=a0a e210;have hE:=Ev.alloc (X:=noB) hM.b.tw (c6c (cs:=⟨#[112,97,116,104]⟩) (ns:=s) (st:=false) ha hlev (by decide) hs hwt hds hsv (by omega));go_simp;exact hK (.slice (some ⟨W.heap.size,0,none⟩) 1 1) _ _ (SL.blk (.inr rfl) (Blk.new _ _ _) (by show 1*8≤8;omega)) hE (hM.evo hE ((zR _ _).alloc hM.b.size _))
   |i+20,hi,_=>exact absurd hi (by omega)
  ·intro bb g W hM hA hall
   have h193:bb.eval (.tmp 193)= .slice wa1 nw wc1:=hall 1 (by omega) _ _ rfl rfl;have h211:SL g W 149 (bb.eval (.tmp 211)) 1:=hall 19 (by omega) _ _ rfl rfl;obtain⟨va,hva⟩:∃v,bb.eval (.tmp 211)=v:=⟨_,rfl⟩;rw[hva] at h211;have hfr:=hA.frame [T,T,T,T,T,T,T,T,T,T,T,T,T,T,T,T,T,T,T,T,T,T,T,T,T,T,T,T,T,T,T,T,T,T,T,T,T,T,T,T,T,T,T,T,T,T,T,T,T,T,T,T,T,T,T,T,T,T,T,T,T,T,T,T,T,T,T,T,T,T,T,T,T,T,T,T,T,T,T,T,T,T,T,T,T,T,T,T,T,T,T,T,T,T,T,T,T,T,T,T,T,T,T,T,T,T,T,T,T,T,T,T,T,T,T,T,T,T,T,T,T,T,T,T,T,T,T,T,T,T,T,T,T,T,T,T,T,T,T,T,T,T,T,T,T,T,T,T,T,T,T,T,T,T,T,T,T,T,T,T,T,T,T,T,T,T,T,T,T,T,T,T,T,T,T,T,T,T,T,T,T,T,T,T,T,T,T,T,T,T,T,T,F,F,F,F,F,F,F,F,F,F,F,F,F,F,F,F,F,F,F,F,T,T,T,T,T,T,T,T,T,T,T,T,T,T,T,T,T,T,T,T,T,T,T,T,T,T,T,T,T,T,T,T,T,T,T,T,T,T,T,T,T,T,T,T,T,T,T,T,T,T,T,T,T,T,T,T,T,T,T,T,T,T,T,T,T,T,T,T,T,T,T,T,T,T,T,T,T,T,T,T,T,T,T,T,T,T,T,T,T,T,T,T,T,T,T,T,T,T,T,T,T,T,T,T,T,T,T,T,T,T,T,T,T,T,T,T,T,T,T,T,T,T,T,T,T,T,T,T,T,T,T,T,T,T,T,T,T,T,T,T,T,T,T,T,T,T,T,T,T,T,T,T,T,T,T,T,T,T,T,T,T,T] _ rfl (by kernel_rfl);clear hall hA;obtain⟨f,hf⟩:∃f:Nat→Value,(fun k=>bb.tmps.getD k undef)=f:=⟨_,rfl⟩;have g193:f 193= .slice wa1 nw wc1:=by rw[←hf,←h193];rfl
   have g211:f 211=va:=by rw[←hf,←hva];rfl
   rw[hf] at hfr;clear hf h193 hva;subst hfr;simp only[a2k,g193,g211,Nat.reduceAdd];clear g193 g211;simp only[List.drop_succ_cons,List.drop_zero];refine hM.append_l (n:=nw) (m:=1) (by rfl) _ _ 34 (by rfl) underlying34 a4b (by rfl) hM.b.s2 hOw (by rfl) h211 (by omega) ?_;intro e9 S' W' hP' hown';obtain⟨a9,c9,rfl,-⟩:=hP'.b.s0.form;have d2:=hP'.b.b0.cell 2;have z2:=hP'.b.b0.frozen 2;have hQ:=hP'.put (i:=2) (v:= .slice a9 (nw+1) c9) rfl rfl;go_wp2_with fail;go_meet;exact⟨S',_,_,_,_,ne,nf,nw+1,l,⟨hQ.sub (by simp),hOe,hOf,hown'⟩,⟨by omega,by omega,by omega,by omega,by omega,fun h=>h,fun h=>h⟩⟩
theorem b5c:a0q 10:=by
 unfold a0q;intro U w ev fv wv pv ne nf nw l hI q0 q1 q2 fq0 fq1 fq2 hcase;have hnf:=hI.nf;have hne:=hI.ne;have hnw:=hI.nw;have hnp:=hI.np;go_enter func31,ntmps31;go_upto_region 1 with fail;refine a0g (fun W1 hW1=> ?_);have h1:=(((OY.init (TW.none w)).box #[ev,fv,wv,pv] 37).box (qC q0 q1 q2) 23).box #[.slice none 0 0,.slice none 0 0,.slice none 0 0,.slice none 0 0] 37;obtain⟨ea,ec,rfl,hec⟩:=hI.e.form;obtain⟨fa,fc,rfl,hfc⟩:=hI.f.form;obtain⟨wa,wc,rfl,hwc⟩:=hI.w.form;obtain⟨pa,pc,rfl,hpc⟩:=hI.p.form;obtain⟨BM,hBM⟩:∃b,w.heap.size=b:=⟨_,rfl⟩;simp only[World.size_alloc] at h1;rw[←hW1,hBM] at h1;rw[hBM];obtain⟨BQ,hBQ⟩:∃b,BM+1=b:=⟨_,rfl⟩;obtain⟨BR,hBR⟩:∃b,BM+1+1=b:=⟨_,rfl⟩;rw[hBR,hBQ] at h1;rw[hBR,hBQ];have hI1:=hI.up h1.bel;obtain⟨m0,m1,m2,m3⟩:=a0l h1.b2;clear hW1;go_upto_region 2 with (first
  |(go_at_call 76;(with_reducible refine (a1j U W1 _ _ _ _ ne nf nw l hI1).mono ?_);rintro e WC⟨SC,ev1,fv1,wv1,pv1,rfl,hR,hev⟩;obtain⟨ea1,ec1,rfl,hec1⟩:=hR.e.form;obtain⟨fa1,fc1,rfl,hfc1⟩:=hR.f.form;obtain⟨wa1,wc1,rfl,hwc1⟩:=hR.w.form;obtain⟨pa1,pc1,rfl,hpc1⟩:=(a0b a2l hR.row (by omega)).form)
  |fail)
 have hSn:∀b,SC b→w.heap.size≤b:=fun b hb=>(hev.new b hb).elim (fun h=>h.elim) (fun h=>Nat.le_trans h1.size h)
 have hPC:OP noB w _ WC _ _ _ l:=⟨((((h1.evn hev).add (a0z hR.w)).add (a0z hR.f)).add (a0z hR.e)),a1v hR.row h1.size,fun g hg hs=>hs.elim (fun h=>h.elim) (fun h=>hR.off g hg h),by simp⟩;refine a0g (fun WD hWD=> ?_);have hPD:=hPC.box #[.slice ea1 ne ec1,.slice fa1 nf fc1,.slice wa1 nw wc1,.slice pa1 l.length pc1] 37 (by decide);obtain⟨BO,hBO⟩:∃b,WC.heap.size=b:=⟨_,rfl⟩;rw[←hWD,hBO] at hPD;rw[hBO];have hO:OO w BO BR BQ BM q0 q1 q2 _ _ WD _ _ _ _ ne nf nw l:=⟨hPD,a0y hR.e hSn,a0y hR.f hSn,a0y hR.w hSn⟩;clear hPD hPC hR hev hSn hWD hBO h1 hI1 m0 m1 m2 m3;obtain⟨S9,hS9⟩:∃S:BS,(fun b=>False∨SC b)=S:=⟨_,rfl⟩;rw[hS9] at hO;clear hS9 hI;obtain⟨n,hn,hn60⟩:∃n:Nat,q1 % 60=(n:Int)∧n<60:=⟨(q1 % 60).toNat,by omega,by omega⟩;obtain⟨k,hk,hk64⟩:∃n:Nat,q2 % 64=(n:Int)∧n<64:=⟨(q2 % 64).toNat,by omega,by omega⟩;obtain⟨r,hr,hr17⟩:∃n:Nat,q0 % 17=(n:Int)∧n<17:=⟨(q0 % 17).toNat,by omega,by omega⟩;have hrN:=Lib.hid (show r=10 by omega);clear hcase;have hm1:=a0p q1 60 WD fq1 (by decide) (by decide);have hm2:=a0p q2 64 WD fq2 (by decide) (by decide);have hm3:=a0p q0 17 WD fq0 (by decide) (by decide);rw[hn] at hm1;rw[hk] at hm2;rw[hr] at hm3;obtain⟨i0,i1,i2⟩:WD.cell? ⟨BQ,0,none⟩=some (.int .i64 q0)∧WD.cell? ⟨BQ,1,none⟩=some (.int .i64 q1)∧WD.cell? ⟨BQ,2,none⟩=some (.int .i64 q2):=⟨hO.p.b.b2.cell 0,hO.p.b.b2.cell 1,hO.p.b.b2.cell 2⟩;go_upto_block 0 with (first
  |(go_at_call 77;(with_reducible refine hm1.mono ?_);rintro e W'⟨rfl,rfl⟩)
  |(go_at_call 77;(with_reducible refine hm2.mono ?_);rintro e W'⟨rfl,rfl⟩)
  |(go_at_call 77;(with_reducible refine hm3.mono ?_);rintro e W'⟨rfl,rfl⟩)
  |fail)
 clear hm1 hm2 hm3 hr hn hk hBM hBQ hBR;generalize hM0: #[Value.slice ea ne ec,.slice fa nf fc,.slice wa nw wc,.slice pa l.length pc]=M0 at hO;go_cut [] (fun wx=>∃S ev' fv' wv' pv' ne' nf' nw' l',OO w BO BR BQ BM q0 q1 q2 M0 S wx ev' fv' wv' pv' ne' nf' nw' l'∧OddR ne nf nw l ne' nf' nw' l')
 case rest =>
  obtain⟨S',ev',fv',wv',pv',ne',nf',nw',l',hO',hR⟩:=hcut;obtain⟨e1,c1,rfl,-⟩:=hO'.p.b.s0.form;obtain⟨e2,c2,rfl,-⟩:=hO'.p.b.s1.form;obtain⟨e3,c3,rfl,-⟩:=hO'.p.b.s2.form;obtain⟨e4,c4,rfl,-⟩:=(a0b a2l hO'.p.row (by have:=hR.p;omega)).form;obtain⟨b0,b1,b2,b3⟩:=a0l hO'.p.b.b0;obtain⟨r0,r1,r2,r3⟩:=a0l hO'.p.b.b1;have z0:=hO'.p.b.b1.frozen 0;have z1:=hO'.p.b.b1.frozen 1;have z2:=hO'.p.b.b1.frozen 2;have z3:=hO'.p.b.b1.frozen 3;have hX:=((((hO'.p.tail.put (i:=0) (v:= .slice e1 ne' c1) rfl rfl).put (i:=1) (v:= .slice e2 nf' c2) rfl rfl).put (i:=2) (v:= .slice e3 nw' c3) rfl rfl).put (i:=3) (v:= .slice e4 l'.length c4) (c':= #[.slice e1 ne' c1,.slice e2 nf' c2,.slice e3 nw' c3,.slice e4 l'.length c4]) rfl rfl);go_wp2_with fail;exact bodyPost_ret (results_cell_row (by rfl) _ _ BR 37 _ (0,0) _ (by rfl) hX.b.b0 underlying37 (by rfl) (by kernel_rfl)) rfl ⟨S',_,_,_,_,ne',nf',nw',l',rfl,⟨hX.b.s0,hX.b.s1,hX.b.s2,hX.row,hX.off⟩,hR,hX.b.o.ev⟩
 case first =>
  obtain⟨b0,b1,b2,b3⟩:=a0l hO.p.b.b0;clear hM0;obtain rfl:=hrN.out;by_cases hp0:l=[]
  ·subst hp0
   go_wp2_with fail;go_meet;exact⟨_,_,_,_,_,_,_,_,_,hO,OddR.refl _ _ _ _⟩
  have hlp:0<l.length:=List.length_pos_iff.2 hp0;obtain⟨g,rfl,hgc⟩:=b7j hO.p.row hp0;obtain⟨m,hm⟩:∃m,l.length=m:=⟨_,rfl⟩;obtain⟨ix,hp,hpl⟩:∃ix:Nat,Int.tmod (k:Int) (m:Int)=(ix:Int)∧ix<l.length:=⟨k % m,by rw[Int.tmod_eq_emod_of_nonneg (by omega)];omega,by rw[hm];exact Nat.mod_lt _ (by omega)⟩;have hpI:(ix:Int)<(m:Int):=by omega
  have hfI:(0:Int)<(m:Int):=by omega
  have hfI2:((m:Int)==0)=false:=by simp;omega
  obtain⟨y,hy⟩:∃y,l[ix]=y:=⟨_,rfl⟩;obtain⟨X,hX0,fX⟩:∃X:Int,wrap64 (wrap64 (y.x+(n:Int))-30)=X∧a0k X:=⟨_,rfl,a0j _⟩;obtain⟨Y,hY0,fY⟩:∃Y:Int,wrap64 (wrap64 (y.y+(k:Int))-30)=Y∧a0k Y:=⟨_,rfl,a0j _⟩;have hR:OddR ne nf nw l ne nf nw (l.set ix { y with x:=X,y:=Y }):=OddR.set hpl (fun h=>by rw[hy] at h;exact⟨h.id,fX,fY,h.wt,h.nm⟩) (fun h=>by rw[hy] at h;exact h);obtain⟨c1,z1⟩:=hO.p.cellP (by omega) hpl (i:=1) (by omega);obtain⟨c2,z2⟩:=hO.p.cellP (by omega) hpl (i:=2) (by omega);rw[hy] at c1 c2;replace c1:WD.cell? ⟨g,ix*7+1,none⟩=some (.int .i64 y.x):=c1;replace c2:WD.cell? ⟨g,ix*7+2,none⟩=some (.int .i64 y.y):=c2;have hX:=hO.p.setRow2 hpl (i:=1) (j:=2) (y1:={ y with x:=X }) (y:={ y with x:=X,y:=Y }) (u:= .int .i64 X) (v:= .int .i64 Y) (by omega) (by omega) (by rw[hy];rfl) rfl;rw[hm] at b3 hX;replace hm:=Lib.hid hm;clear hp0 hy hlp;go_upto_region 35 with fail;first|with_reducible refine a0c 7 (by kernel_rfl) (by kernel_rfl) ?_|with_reducible refine a0d 7 (by kernel_rfl) (by kernel_rfl) ?_
  simp only[List.take_succ_cons,List.take_zero,List.drop_succ_cons,List.drop_zero];repeat (first|go_big_quiet_step (fail)|quiet_step (fail))
  refine wpQuiet_nil ?_;intro _ hw_;obtain⟨p,hw_⟩:=hw_;subst hw_;go_upto_region 36 with fail;first|with_reducible refine a0c 18 (by kernel_rfl) (by kernel_rfl) ?_|with_reducible refine a0d 18 (by kernel_rfl) (by kernel_rfl) ?_
  simp only[List.take_succ_cons,List.take_zero,List.drop_succ_cons,List.drop_zero];repeat (first|go_big_quiet_step (fail)|quiet_step (fail))
  refine wpQuiet_nil ?_;intro _ hw_;obtain⟨p,hw_⟩:=hw_;subst hw_;go_wp2_with fail;go_meet;subst hX0 hY0;exact⟨_,_,_,_,_,_,_,_,_,⟨hX.up (Go.below_growBy _ _),hO.oe,hO.of,hO.ow⟩,hR⟩
theorem b5d:a0q 11:=by
 unfold a0q;intro U w ev fv wv pv ne nf nw l hI q0 q1 q2 fq0 fq1 fq2 hcase;have hnf:=hI.nf;have hne:=hI.ne;have hnw:=hI.nw;have hnp:=hI.np;go_enter func31,ntmps31;go_upto_region 1 with fail;refine a0g (fun W1 hW1=> ?_);have h1:=(((OY.init (TW.none w)).box #[ev,fv,wv,pv] 37).box (qC q0 q1 q2) 23).box #[.slice none 0 0,.slice none 0 0,.slice none 0 0,.slice none 0 0] 37;obtain⟨ea,ec,rfl,hec⟩:=hI.e.form;obtain⟨fa,fc,rfl,hfc⟩:=hI.f.form;obtain⟨wa,wc,rfl,hwc⟩:=hI.w.form;obtain⟨pa,pc,rfl,hpc⟩:=hI.p.form;obtain⟨BM,hBM⟩:∃b,w.heap.size=b:=⟨_,rfl⟩;simp only[World.size_alloc] at h1;rw[←hW1,hBM] at h1;rw[hBM];obtain⟨BQ,hBQ⟩:∃b,BM+1=b:=⟨_,rfl⟩;obtain⟨BR,hBR⟩:∃b,BM+1+1=b:=⟨_,rfl⟩;rw[hBR,hBQ] at h1;rw[hBR,hBQ];have hI1:=hI.up h1.bel;obtain⟨m0,m1,m2,m3⟩:=a0l h1.b2;clear hW1;go_upto_region 2 with (first
  |(go_at_call 76;(with_reducible refine (a1j U W1 _ _ _ _ ne nf nw l hI1).mono ?_);rintro e WC⟨SC,ev1,fv1,wv1,pv1,rfl,hR,hev⟩;obtain⟨ea1,ec1,rfl,hec1⟩:=hR.e.form;obtain⟨fa1,fc1,rfl,hfc1⟩:=hR.f.form;obtain⟨wa1,wc1,rfl,hwc1⟩:=hR.w.form;obtain⟨pa1,pc1,rfl,hpc1⟩:=(a0b a2l hR.row (by omega)).form)
  |fail)
 have hSn:∀b,SC b→w.heap.size≤b:=fun b hb=>(hev.new b hb).elim (fun h=>h.elim) (fun h=>Nat.le_trans h1.size h)
 have hPC:OP noB w _ WC _ _ _ l:=⟨((((h1.evn hev).add (a0z hR.w)).add (a0z hR.f)).add (a0z hR.e)),a1v hR.row h1.size,fun g hg hs=>hs.elim (fun h=>h.elim) (fun h=>hR.off g hg h),by simp⟩;refine a0g (fun WD hWD=> ?_);have hPD:=hPC.box #[.slice ea1 ne ec1,.slice fa1 nf fc1,.slice wa1 nw wc1,.slice pa1 l.length pc1] 37 (by decide);obtain⟨BO,hBO⟩:∃b,WC.heap.size=b:=⟨_,rfl⟩;rw[←hWD,hBO] at hPD;rw[hBO];have hO:OO w BO BR BQ BM q0 q1 q2 _ _ WD _ _ _ _ ne nf nw l:=⟨hPD,a0y hR.e hSn,a0y hR.f hSn,a0y hR.w hSn⟩;clear hPD hPC hR hev hSn hWD hBO h1 hI1 m0 m1 m2 m3;obtain⟨S9,hS9⟩:∃S:BS,(fun b=>False∨SC b)=S:=⟨_,rfl⟩;rw[hS9] at hO;clear hS9 hI;obtain⟨n,hn,hn60⟩:∃n:Nat,q1 % 60=(n:Int)∧n<60:=⟨(q1 % 60).toNat,by omega,by omega⟩;obtain⟨k,hk,hk64⟩:∃n:Nat,q2 % 64=(n:Int)∧n<64:=⟨(q2 % 64).toNat,by omega,by omega⟩;obtain⟨r,hr,hr17⟩:∃n:Nat,q0 % 17=(n:Int)∧n<17:=⟨(q0 % 17).toNat,by omega,by omega⟩;have hrN:=Lib.hid (show r=11 by omega);clear hcase;have hm1:=a0p q1 60 WD fq1 (by decide) (by decide);have hm2:=a0p q2 64 WD fq2 (by decide) (by decide);have hm3:=a0p q0 17 WD fq0 (by decide) (by decide);rw[hn] at hm1;rw[hk] at hm2;rw[hr] at hm3;obtain⟨i0,i1,i2⟩:WD.cell? ⟨BQ,0,none⟩=some (.int .i64 q0)∧WD.cell? ⟨BQ,1,none⟩=some (.int .i64 q1)∧WD.cell? ⟨BQ,2,none⟩=some (.int .i64 q2):=⟨hO.p.b.b2.cell 0,hO.p.b.b2.cell 1,hO.p.b.b2.cell 2⟩;go_upto_block 0 with (first
  |(go_at_call 77;(with_reducible refine hm1.mono ?_);rintro e W'⟨rfl,rfl⟩)
  |(go_at_call 77;(with_reducible refine hm2.mono ?_);rintro e W'⟨rfl,rfl⟩)
  |(go_at_call 77;(with_reducible refine hm3.mono ?_);rintro e W'⟨rfl,rfl⟩)
  |fail)
 clear hm1 hm2 hm3 hr hn hk hBM hBQ hBR;generalize hM0: #[Value.slice ea ne ec,.slice fa nf fc,.slice wa nw wc,.slice pa l.length pc]=M0 at hO;go_cut [] (fun wx=>∃S ev' fv' wv' pv' ne' nf' nw' l',OO w BO BR BQ BM q0 q1 q2 M0 S wx ev' fv' wv' pv' ne' nf' nw' l'∧OddR ne nf nw l ne' nf' nw' l')
 case rest =>
  obtain⟨S',ev',fv',wv',pv',ne',nf',nw',l',hO',hR⟩:=hcut;obtain⟨e1,c1,rfl,-⟩:=hO'.p.b.s0.form;obtain⟨e2,c2,rfl,-⟩:=hO'.p.b.s1.form;obtain⟨e3,c3,rfl,-⟩:=hO'.p.b.s2.form;obtain⟨e4,c4,rfl,-⟩:=(a0b a2l hO'.p.row (by have:=hR.p;omega)).form;obtain⟨b0,b1,b2,b3⟩:=a0l hO'.p.b.b0;obtain⟨r0,r1,r2,r3⟩:=a0l hO'.p.b.b1;have z0:=hO'.p.b.b1.frozen 0;have z1:=hO'.p.b.b1.frozen 1;have z2:=hO'.p.b.b1.frozen 2;have z3:=hO'.p.b.b1.frozen 3;have hX:=((((hO'.p.tail.put (i:=0) (v:= .slice e1 ne' c1) rfl rfl).put (i:=1) (v:= .slice e2 nf' c2) rfl rfl).put (i:=2) (v:= .slice e3 nw' c3) rfl rfl).put (i:=3) (v:= .slice e4 l'.length c4) (c':= #[.slice e1 ne' c1,.slice e2 nf' c2,.slice e3 nw' c3,.slice e4 l'.length c4]) rfl rfl);go_wp2_with fail;exact bodyPost_ret (results_cell_row (by rfl) _ _ BR 37 _ (0,0) _ (by rfl) hX.b.b0 underlying37 (by rfl) (by kernel_rfl)) rfl ⟨S',_,_,_,_,ne',nf',nw',l',rfl,⟨hX.b.s0,hX.b.s1,hX.b.s2,hX.row,hX.off⟩,hR,hX.b.o.ev⟩
 case first =>
  obtain⟨b0,b1,b2,b3⟩:=a0l hO.p.b.b0;clear hM0;obtain rfl:=hrN.out;by_cases hp0:l=[]
  ·subst hp0
   go_wp2_with fail;go_meet;exact⟨_,_,_,_,_,_,_,_,_,hO,OddR.refl _ _ _ _⟩
  have hlp:0<l.length:=List.length_pos_iff.2 hp0;obtain⟨g,rfl,hgc⟩:=b7j hO.p.row hp0;obtain⟨m,hm⟩:∃m,l.length=m:=⟨_,rfl⟩;obtain⟨ix,hp,hpl⟩:∃ix:Nat,Int.tmod (k:Int) (m:Int)=(ix:Int)∧ix<l.length:=⟨k % m,by rw[Int.tmod_eq_emod_of_nonneg (by omega)];omega,by rw[hm];exact Nat.mod_lt _ (by omega)⟩;have hpI:(ix:Int)<(m:Int):=by omega
  have hfI:(0:Int)<(m:Int):=by omega
  have hfI2:((m:Int)==0)=false:=by simp;omega
  obtain⟨y,hy⟩:∃y,l[ix]=y:=⟨_,rfl⟩;obtain⟨q,hq⟩:∃q:Int,Int.tmod (n:Int) 18=q:=⟨_,rfl⟩;have hR:OddR ne nf nw l ne nf nw (l.set ix { y with ds:=q }):=OddR.set hpl (fun h=>by rw[hy] at h;exact⟨h.id,h.x,h.y,h.wt,h.nm⟩) (fun h=>by rw[hy] at h;exact h);obtain⟨c5,z5⟩:=hO.p.cellP (by omega) hpl (i:=6) (by omega);rw[hy] at c5;replace c5:WD.cell? ⟨g,ix*7+6,none⟩=some _:=c5;have hX:=hO.p.setRow hpl (i:=6) (y:={ y with ds:=q }) (u:=(.int .i64 q)) (by omega) (by rw[hy];rfl);rw[hm] at b3 hX;replace hm:=Lib.hid hm;clear hp0 hy hlp;go_upto_region 39 with fail;first|with_reducible refine a0c 9 (by kernel_rfl) (by kernel_rfl) ?_|with_reducible refine a0d 9 (by kernel_rfl) (by kernel_rfl) ?_
  simp only[List.take_succ_cons,List.take_zero,List.drop_succ_cons,List.drop_zero];repeat (first|go_big_quiet_step (fail)|quiet_step (fail))
  refine wpQuiet_nil ?_;intro _ hw_;obtain⟨p,hw_⟩:=hw_;subst hw_;go_wp2_with fail;go_meet;subst hq;exact⟨_,_,_,_,_,_,_,_,_,⟨hX.up (Go.below_growBy _ _),hO.oe,hO.of,hO.ow⟩,hR⟩
end
end Go.Proofs.YtfocdbjceedagaaGreatDoor
