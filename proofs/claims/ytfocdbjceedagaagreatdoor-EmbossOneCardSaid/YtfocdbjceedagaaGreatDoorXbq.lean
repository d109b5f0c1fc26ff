/-
  Parts.
-/
import Derived.Test.YtfocdbjceedagaaGreatDoorXbn
import Derived.Test.YtfocdbjceedagaaGreatDoorXbo
import Derived.Test.YtfocdbjceedagaaGreatDoorXbp
set_option linter.unusedVariables false
set_option linter.unusedSimpArgs false
set_option maxHeartbeats 60000000
set_option maxRecDepth 100000
namespace Go.Proofs.YtfocdbjceedagaaGreatDoor
open Tryz
section
open Go Go.RowKit Go.Shelf
attribute [local go_sem] Oper.semAt_some
attribute [local go_sem ↓] Go.wp_at_zero Go.wp_at_succ
theorem c9r (U:BS)(w:World)(hT:TW U w)(ev fv:Value)(ne nf:Nat)(hve:SL U w 206 ev ne)(hvf:SL U w 140 fv nf)(hne:ne≤1000)(hnf:nf≤1000)(q0 q1 q2:Int)(fq0:a0k q0)(fq1:a0k q1)(fq2:a0k q2) :
 Calls prog 78 #[ev,fv,.agg #[.int .i64 q0,.int .i64 q1,.int .i64 q2]] w fun e w'=>∃S' ev' fv' ne' nf',e= .returned (.tuple #[ev',fv'])∧SL S' w' 206 ev' ne'∧SL S' w' 140 fv' nf'∧ne'≤ne+1∧nf'≤nf+1∧Ev noB noB w S' w':=by
 obtain⟨r,hr,hr13⟩:∃n:Nat,q0 % 13=(n:Int)∧n<13:=⟨(q0 % 13).toNat,by omega,by omega⟩;match r,hr13 with
 |0,_=>exact a5h U w hT ev fv ne nf hve hvf hne hnf q0 q1 q2 fq0 fq1 fq2 (by omega)
 |1,_=>exact a5h U w hT ev fv ne nf hve hvf hne hnf q0 q1 q2 fq0 fq1 fq2 (by omega)
 |2,_=>exact a5h U w hT ev fv ne nf hve hvf hne hnf q0 q1 q2 fq0 fq1 fq2 (by omega)
 |3,_=>exact a5h U w hT ev fv ne nf hve hvf hne hnf q0 q1 q2 fq0 fq1 fq2 (by omega)
 |4,_=>exact a5i U w hT ev fv ne nf hve hvf hne hnf q0 q1 q2 fq0 fq1 fq2 (by omega)
 |5,_=>exact a5i U w hT ev fv ne nf hve hvf hne hnf q0 q1 q2 fq0 fq1 fq2 (by omega)
 |6,_=>exact a5i U w hT ev fv ne nf hve hvf hne hnf q0 q1 q2 fq0 fq1 fq2 (by omega)
 |7,_=>exact a5i U w hT ev fv ne nf hve hvf hne hnf q0 q1 q2 fq0 fq1 fq2 (by omega)
 |8,_=>exact a4d U w hT ev fv ne nf hve hvf hne hnf q0 q1 q2 fq0 fq1 fq2 (by omega)
 |9,_=>exact a4d U w hT ev fv ne nf hve hvf hne hnf q0 q1 q2 fq0 fq1 fq2 (by omega)
 |10,_=>exact a4d U w hT ev fv ne nf hve hvf hne hnf q0 q1 q2 fq0 fq1 fq2 (by omega)
 |11,_=>exact a4d U w hT ev fv ne nf hve hvf hne hnf q0 q1 q2 fq0 fq1 fq2 (by omega)
 |12,_=>exact a4d U w hT ev fv ne nf hve hvf hne hnf q0 q1 q2 fq0 fq1 fq2 (by omega)
 |r+13,h=>omega
theorem b7m:a0q 0:=by
 unfold a0q;intro U w ev fv wv pv ne nf nw l hI q0 q1 q2 fq0 fq1 fq2 hcase;have hnf:=hI.nf;have hne:=hI.ne;have hnw:=hI.nw;have hnp:=hI.np;go_enter func31,ntmps31;go_upto_region 1 with fail;refine a0g (fun W1 hW1=> ?_);have h1:=(((OY.init (TW.none w)).box #[ev,fv,wv,pv] 37).box (qC q0 q1 q2) 23).box #[.slice none 0 0,.slice none 0 0,.slice none 0 0,.slice none 0 0] 37;obtain⟨ea,ec,rfl,hec⟩:=hI.e.form;obtain⟨fa,fc,rfl,hfc⟩:=hI.f.form;obtain⟨wa,wc,rfl,hwc⟩:=hI.w.form;obtain⟨pa,pc,rfl,hpc⟩:=hI.p.form;obtain⟨BM,hBM⟩:∃b,w.heap.size=b:=⟨_,rfl⟩;simp only[World.size_alloc] at h1;rw[←hW1,hBM] at h1;rw[hBM];obtain⟨BQ,hBQ⟩:∃b,BM+1=b:=⟨_,rfl⟩;obtain⟨BR,hBR⟩:∃b,BM+1+1=b:=⟨_,rfl⟩;rw[hBR,hBQ] at h1;rw[hBR,hBQ];have hI1:=hI.up h1.bel;obtain⟨m0,m1,m2,m3⟩:=a0l h1.b2;clear hW1;go_upto_region 2 with (first
  |(go_at_call 76;(with_reducible refine (a1j U W1 _ _ _ _ ne nf nw l hI1).mono ?_);rintro e WC⟨SC,ev1,fv1,wv1,pv1,rfl,hR,hev⟩;obtain⟨ea1,ec1,rfl,hec1⟩:=hR.e.form;obtain⟨fa1,fc1,rfl,hfc1⟩:=hR.f.form;obtain⟨wa1,wc1,rfl,hwc1⟩:=hR.w.form;obtain⟨pa1,pc1,rfl,hpc1⟩:=(a0b a2l hR.row (by omega)).form)
  |fail)
 have hSn:∀b,SC b→w.heap.size≤b:=fun b hb=>(hev.new b hb).elim (fun h=>h.elim) (fun h=>Nat.le_trans h1.size h)
 have hPC:OP noB w _ WC _ _ _ l:=⟨((((h1.evn hev).add (a0z hR.w)).add (a0z hR.f)).add (a0z hR.e)),a1v hR.row h1.size,fun g hg hs=>hs.elim (fun h=>h.elim) (fun h=>hR.off g hg h),by simp⟩;refine a0g (fun WD hWD=> ?_);have hPD:=hPC.box #[.slice ea1 ne ec1,.slice fa1 nf fc1,.slice wa1 nw wc1,.slice pa1 l.length pc1] 37 (by decide);obtain⟨BO,hBO⟩:∃b,WC.heap.size=b:=⟨_,rfl⟩;rw[←hWD,hBO] at hPD;rw[hBO];have hO:OO w BO BR BQ BM q0 q1 q2 _ _ WD _ _ _ _ ne nf nw l:=⟨hPD,a0y hR.e hSn,a0y hR.f hSn,a0y hR.w hSn⟩;clear hPD hPC hR hev hSn hWD hBO h1 hI1 m0 m1 m2 m3;obtain⟨S9,hS9⟩:∃S:BS,(fun b=>False∨SC b)=S:=⟨_,rfl⟩;rw[hS9] at hO;clear hS9 hI;obtain⟨n,hn,hn60⟩:∃n:Nat,q1 % 60=(n:Int)∧n<60:=⟨(q1 % 60).toNat,by omega,by omega⟩;obtain⟨k,hk,hk64⟩:∃n:Nat,q2 % 64=(n:Int)∧n<64:=⟨(q2 % 64).toNat,by omega,by omega⟩;obtain⟨r,hr,hr17⟩:∃n:Nat,q0 % 17=(n:Int)∧n<17:=⟨(q0 % 17).toNat,by omega,by omega⟩;have hrN:=Lib.hid (show r=0 by omega);clear hcase;have hm1:=a0p q1 60 WD fq1 (by decide) (by decide);have hm2:=a0p q2 64 WD fq2 (by decide) (by decide);have hm3:=a0p q0 17 WD fq0 (by decide) (by decide);rw[hn] at hm1;rw[hk] at hm2;rw[hr] at hm3;obtain⟨i0,i1,i2⟩:WD.cell? ⟨BQ,0,none⟩=some (.int .i64 q0)∧WD.cell? ⟨BQ,1,none⟩=some (.int .i64 q1)∧WD.cell? ⟨BQ,2,none⟩=some (.int .i64 q2):=⟨hO.p.b.b2.cell 0,hO.p.b.b2.cell 1,hO.p.b.b2.cell 2⟩;go_upto_block 0 with (first
  |(go_at_call 77;(with_reducible refine hm1.mono ?_);rintro e W'⟨rfl,rfl⟩)
  |(go_at_call 77;(with_reducible refine hm2.mono ?_);rintro e W'⟨rfl,rfl⟩)
  |(go_at_call 77;(with_reducible refine hm3.mono ?_);rintro e W'⟨rfl,rfl⟩)
  |fail)
 clear hm1 hm2 hm3 hr hn hk hBM hBQ hBR;generalize hM0: #[Value.slice ea ne ec,.slice fa nf fc,.slice wa nw wc,.slice pa l.length pc]=M0 at hO;go_cut [] (fun wx=>∃S ev' fv' wv' pv' ne' nf' nw' l',OO w BO BR BQ BM q0 q1 q2 M0 S wx ev' fv' wv' pv' ne' nf' nw' l'∧OddR ne nf nw l ne' nf' nw' l')
 case rest =>
  obtain⟨S',ev',fv',wv',pv',ne',nf',nw',l',hO',hR⟩:=hcut;obtain⟨e1,c1,rfl,-⟩:=hO'.p.b.s0.form;obtain⟨e2,c2,rfl,-⟩:=hO'.p.b.s1.form;obtain⟨e3,c3,rfl,-⟩:=hO'.p.b.s2.form;obtain⟨e4,c4,rfl,-⟩:=(a0b a2l hO'.p.row (by have:=hR.p;omega)).form;obtain⟨b0,b1,b2,b3⟩:=a0l hO'.p.b.b0;obtain⟨r0,r1,r2,r3⟩:=a0l hO'.p.b.b1;have z0:=hO'.p.b.b1.frozen 0;have z1:=hO'.p.b.b1.frozen 1;have z2:=hO'.p.b.b1.frozen 2;have z3:=hO'.p.b.b1.frozen 3;have hX:=((((hO'.p.tail.put (i:=0) (v:= .slice e1 ne' c1) rfl rfl).put (i:=1) (v:= .slice e2 nf' c2) rfl rfl).put (i:=2) (v:= .slice e3 nw' c3) rfl rfl).put (i:=3) (v:= .slice e4 l'.length c4) (c':= #[.slice e1 ne' c1,.slice e2 nf' c2,.slice e3 nw' c3,.slice e4 l'.length c4]) rfl rfl);go_wp2_with fail;exact bodyPost_ret (results_cell_row (by rfl) _ _ BR 37 _ (0,0) _ (by rfl) hX.b.b0 underlying37 (by rfl) (by kernel_rfl)) rfl ⟨S',_,_,_,_,ne',nf',nw',l',rfl,⟨hX.b.s0,hX.b.s1,hX.b.s2,hX.row,hX.off⟩,hR,hX.b.o.ev⟩
 case first =>
  obtain⟨b0,b1,b2,b3⟩:=a0l hO.p.b.b0;clear hM0;obtain rfl:=hrN.out;go_wp2_with (first
   |(go_at_call 78;(with_reducible refine (c9r S9 WD hO.p.b.tw _ _ ne nf hO.p.b.s0 hO.p.b.s1 hne hnf q1 q2 _ fq1 fq2 (by first|exact a0j _|exact a0m _)).mono ?_);rintro e WE⟨SE,ev2,fv2,ne2,nf2,rfl,he2,hf2,hne2,hnf2,hevE⟩;obtain⟨a1,a2,rfl,-⟩:=he2.form;obtain⟨a3,a4,rfl,-⟩:=hf2.form;have hPE:=((hO.p.evn hevE).add (a0z hf2)).add (a0z he2);obtain⟨y0,y1,y2,y3⟩:=a0l hPE.b.b0;have x0:=hPE.b.b0.frozen 0;have x1:=hPE.b.b0.frozen 1)
   |fail)
  go_meet;exact⟨_,_,_,_,_,ne2,nf2,nw,l,⟨((hPE.put (i:=0) rfl rfl).put (i:=1) rfl rfl).sub (by simp),a0y he2 (fun b hb=>(hevE.new b hb).elim (fun h=>h.elim) (fun h=>Nat.le_trans hO.p.b.size h)),a0y hf2 (fun b hb=>(hevE.new b hb).elim (fun h=>h.elim) (fun h=>Nat.le_trans hO.p.b.size h)),hO.ow⟩,⟨hne2,hnf2,by omega,by omega,by omega,fun h=>h,fun h=>h⟩⟩
theorem b7n:a0q 1:=by
 unfold a0q;intro U w ev fv wv pv ne nf nw l hI q0 q1 q2 fq0 fq1 fq2 hcase;have hnf:=hI.nf;have hne:=hI.ne;have hnw:=hI.nw;have hnp:=hI.np;go_enter func31,ntmps31;go_upto_region 1 with fail;refine a0g (fun W1 hW1=> ?_);have h1:=(((OY.init (TW.none w)).box #[ev,fv,wv,pv] 37).box (qC q0 q1 q2) 23).box #[.slice none 0 0,.slice none 0 0,.slice none 0 0,.slice none 0 0] 37;obtain⟨ea,ec,rfl,hec⟩:=hI.e.form;obtain⟨fa,fc,rfl,hfc⟩:=hI.f.form;obtain⟨wa,wc,rfl,hwc⟩:=hI.w.form;obtain⟨pa,pc,rfl,hpc⟩:=hI.p.form;obtain⟨BM,hBM⟩:∃b,w.heap.size=b:=⟨_,rfl⟩;simp only[World.size_alloc] at h1;rw[←hW1,hBM] at h1;rw[hBM];obtain⟨BQ,hBQ⟩:∃b,BM+1=b:=⟨_,rfl⟩;obtain⟨BR,hBR⟩:∃b,BM+1+1=b:=⟨_,rfl⟩;rw[hBR,hBQ] at h1;rw[hBR,hBQ];have hI1:=hI.up h1.bel;obtain⟨m0,m1,m2,m3⟩:=a0l h1.b2;clear hW1;go_upto_region 2 with (first
  |(go_at_call 76;(with_reducible refine (a1j U W1 _ _ _ _ ne nf nw l hI1).mono ?_);rintro e WC⟨SC,ev1,fv1,wv1,pv1,rfl,hR,hev⟩;obtain⟨ea1,ec1,rfl,hec1⟩:=hR.e.form;obtain⟨fa1,fc1,rfl,hfc1⟩:=hR.f.form;obtain⟨wa1,wc1,rfl,hwc1⟩:=hR.w.form;obtain⟨pa1,pc1,rfl,hpc1⟩:=(a0b a2l hR.row (by omega)).form)
  |fail)
 have hSn:∀b,SC b→w.heap.size≤b:=fun b hb=>(hev.new b hb).elim (fun h=>h.elim) (fun h=>Nat.le_trans h1.size h)
 have hPC:OP noB w _ WC _ _ _ l:=⟨((((h1.evn hev).add (a0z hR.w)).add (a0z hR.f)).add (a0z hR.e)),a1v hR.row h1.size,fun g hg hs=>hs.elim (fun h=>h.elim) (fun h=>hR.off g hg h),by simp⟩;refine a0g (fun WD hWD=> ?_);have hPD:=hPC.box #[.slice ea1 ne ec1,.slice fa1 nf fc1,.slice wa1 nw wc1,.slice pa1 l.length pc1] 37 (by decide);obtain⟨BO,hBO⟩:∃b,WC.heap.size=b:=⟨_,rfl⟩;rw[←hWD,hBO] at hPD;rw[hBO];have hO:OO w BO BR BQ BM q0 q1 q2 _ _ WD _ _ _ _ ne nf nw l:=⟨hPD,a0y hR.e hSn,a0y hR.f hSn,a0y hR.w hSn⟩;clear hPD hPC hR hev hSn hWD hBO h1 hI1 m0 m1 m2 m3;obtain⟨S9,hS9⟩:∃S:BS,(fun b=>False∨SC b)=S:=⟨_,rfl⟩;rw[hS9] at hO;clear hS9 hI;obtain⟨n,hn,hn60⟩:∃n:Nat,q1 % 60=(n:Int)∧n<60:=⟨(q1 % 60).toNat,by omega,by omega⟩;obtain⟨k,hk,hk64⟩:∃n:Nat,q2 % 64=(n:Int)∧n<64:=⟨(q2 % 64).toNat,by omega,by omega⟩;obtain⟨r,hr,hr17⟩:∃n:Nat,q0 % 17=(n:Int)∧n<17:=⟨(q0 % 17).toNat,by omega,by omega⟩;have hrN:=Lib.hid (show r=1 by omega);clear hcase;have hm1:=a0p q1 60 WD fq1 (by decide) (by decide);have hm2:=a0p q2 64 WD fq2 (by decide) (by decide);have hm3:=a0p q0 17 WD fq0 (by decide) (by decide);rw[hn] at hm1;rw[hk] at hm2;rw[hr] at hm3;obtain⟨i0,i1,i2⟩:WD.cell? ⟨BQ,0,none⟩=some (.int .i64 q0)∧WD.cell? ⟨BQ,1,none⟩=some (.int .i64 q1)∧WD.cell? ⟨BQ,2,none⟩=some (.int .i64 q2):=⟨hO.p.b.b2.cell 0,hO.p.b.b2.cell 1,hO.p.b.b2.cell 2⟩;go_upto_block 0 with (first
  |(go_at_call 77;(with_reducible refine hm1.mono ?_);rintro e W'⟨rfl,rfl⟩)
  |(go_at_call 77;(with_reducible refine hm2.mono ?_);rintro e W'⟨rfl,rfl⟩)
  |(go_at_call 77;(with_reducible refine hm3.mono ?_);rintro e W'⟨rfl,rfl⟩)
  |fail)
 clear hm1 hm2 hm3 hr hn hk hBM hBQ hBR;generalize hM0: #[Value.slice ea ne ec,.slice fa nf fc,.slice wa nw wc,.slice pa l.length pc]=M0 at hO;go_cut [] (fun wx=>∃S ev' fv' wv' pv' ne' nf' nw' l',OO w BO BR BQ BM q0 q1 q2 M0 S wx ev' fv' wv' pv' ne' nf' nw' l'∧OddR ne nf nw l ne' nf' nw' l')
 case rest =>
  obtain⟨S',ev',fv',wv',pv',ne',nf',nw',l',hO',hR⟩:=hcut;obtain⟨e1,c1,rfl,-⟩:=hO'.p.b.s0.form;obtain⟨e2,c2,rfl,-⟩:=hO'.p.b.s1.form;obtain⟨e3,c3,rfl,-⟩:=hO'.p.b.s2.form;obtain⟨e4,c4,rfl,-⟩:=(a0b a2l hO'.p.row (by have:=hR.p;omega)).form;obtain⟨b0,b1,b2,b3⟩:=a0l hO'.p.b.b0;obtain⟨r0,r1,r2,r3⟩:=a0l hO'.p.b.b1;have z0:=hO'.p.b.b1.frozen 0;have z1:=hO'.p.b.b1.frozen 1;have z2:=hO'.p.b.b1.frozen 2;have z3:=hO'.p.b.b1.frozen 3;have hX:=((((hO'.p.tail.put (i:=0) (v:= .slice e1 ne' c1) rfl rfl).put (i:=1) (v:= .slice e2 nf' c2) rfl rfl).put (i:=2) (v:= .slice e3 nw' c3) rfl rfl).put (i:=3) (v:= .slice e4 l'.length c4) (c':= #[.slice e1 ne' c1,.slice e2 nf' c2,.slice e3 nw' c3,.slice e4 l'.length c4]) rfl rfl);go_wp2_with fail;exact bodyPost_ret (results_cell_row (by rfl) _ _ BR 37 _ (0,0) _ (by rfl) hX.b.b0 underlying37 (by rfl) (by kernel_rfl)) rfl ⟨S',_,_,_,_,ne',nf',nw',l',rfl,⟨hX.b.s0,hX.b.s1,hX.b.s2,hX.row,hX.off⟩,hR,hX.b.o.ev⟩
 case first =>
  obtain⟨b0,b1,b2,b3⟩:=a0l hO.p.b.b0;clear hM0;obtain rfl:=hrN.out;by_cases hf0:nf=0
  ·subst hf0
   go_wp2_with fail;go_meet;exact⟨_,_,_,_,_,_,_,_,_,hO,OddR.refl _ _ _ _⟩
  obtain⟨p,hp,hpf⟩:∃p:Nat,Int.tmod (k:Int) (nf:Int)=(p:Int)∧p<nf:=⟨k % nf,by rw[Int.tmod_eq_emod_of_nonneg (by omega)];omega,Nat.mod_lt _ (by omega)⟩;have hpI:(p:Int)<(nf:Int):=by omega
  have hfI:(0:Int)<(nf:Int):=by omega
  have hfI2:((nf:Int)==0)=false:=by simpa using hf0
  obtain⟨fb,fo,fc',heq,hfc',-⟩:=hO.p.b.s1.some_ (by omega)
  cases heq;obtain⟨id,cs,ns,wt,ds,c0,c1,c2,c3,c4,f0,f1,f2,f3,f4⟩:=SL.face5 hO.p.b.tw hO.p.b.s1 hpf;have hst:=fun i ct h u hu=>hO.p.store a1m hO.p.b.s1 hO.of p i ct h u hu
  obtain⟨q,hq,hq5⟩:∃q:Nat,Int.tmod (n:Int) 5=(q:Int)∧q<5:=⟨n % 5,by rw[Int.tmod_eq_emod_of_nonneg (by omega)];omega,by omega⟩;have hqe:(n:Int) % 5=(q:Int):=by rw[←hq,Int.tmod_eq_emod_of_nonneg (by omega)]
  have hqI:(q:Int)<5:=by omega
  obtain⟨s,hs,hc⟩:∃s:ByteArray,s.size≤30∧(#[.string ⟨#[]⟩,.string ⟨#[70,105,101,108,100]⟩,.string ⟨#[119,111,111,100]⟩,.string ⟨#[97,98,99,100,101,102,103,104,105,106,107,108,109]⟩,.string ⟨#[108,97,107,101]⟩]:Array Value)[q]? =some (.string s):=by
   match q,hq5 with
   |0,_=>exact⟨_,by decide,rfl⟩
   |1,_=>exact⟨_,by decide,rfl⟩
   |2,_=>exact⟨_,by decide,rfl⟩
   |3,_=>exact⟨_,by decide,rfl⟩
   |4,_=>exact⟨_,by decide,rfl⟩
  have hpt:∀W Z,Blk W Z d3q 9→W.cell? ⟨Z,q,none⟩=some (.string s):=fun W Z h=>(h.cell q).trans hc
  have hOe:=hO.oe;have hOf:=hO.of;have hOw:=hO.ow;have hP:=hO.p;go_upto_region 9 with fail;clear hst hc hO c0 c1 c2 c3 c4 i0 i1 i2 b0 b1 b2 b3;refine Go.wp_region_reln 12 (by kernel_rfl) (by kernel_rfl) (fun _ g W=>OP noB w g W [(BO,#[.slice ea1 ne ec1,.slice (some ⟨fb,fo,none⟩) nf fc1,.slice wa1 nw wc1,.slice pa1 l.length pc1],37),(BR,mZ,37),(BQ,qC q0 q1 q2,23),(BM,M0,37)] [(206,.slice ea1 ne ec1,ne),(140,.slice (some ⟨fb,fo,none⟩) nf fc1,nf),(149,.slice wa1 nw wc1,nw)] (.slice pa1 l.length pc1) l) (fun g W g' W'=>Ev noB g W g' W') (FG1 BO k n p q nf fb fo fc1 s) (fun _ _ _ _ _ _ h g=>h.kept g) S9 (hP.up (zR _ _).drew) ?_ ?_
  ·intro i o hi ho c bb g W hc hM hA hD K hK
   match i,hi,ho with
   |0,_,ho =>
    cases ho;have f5:=a0a (v:= .pointer (some ⟨BO,0,none⟩)) (hA.at_ (k:=5) (by kernel_rfl));go_simp;exact hK (.pointer (some ⟨BO,1,none⟩)) g W rfl (Ev.refl hM.b.tw) hM
   |1,_,ho =>
    cases ho;have f49:=a0a (v:= .pointer (some ⟨BO,1,none⟩)) (a0f hD 0 49 (by kernel_rfl) rfl rfl);have z0:W.cell? ⟨BO,1,none⟩=some (.slice (some ⟨fb,fo,none⟩) nf fc1):=hM.b.b0.cell 1;go_simp;exact hK (.slice (some ⟨fb,fo,none⟩) nf fc1) g W rfl (Ev.refl hM.b.tw) hM
   |2,_,ho =>
    cases ho;have f7:=a0a (v:= .int .i64 (k:Nat)) (hA.at_ (k:=7) (by kernel_rfl));go_simp;exact hK (.int .i64 (k:Nat)) g W rfl (Ev.refl hM.b.tw) hM
   |3,_,ho =>
    cases ho;have f5:=a0a (v:= .pointer (some ⟨BO,0,none⟩)) (hA.at_ (k:=5) (by kernel_rfl));go_simp;exact hK (.pointer (some ⟨BO,1,none⟩)) g W rfl (Ev.refl hM.b.tw) hM
   |4,_,ho =>
    cases ho;have f52:=a0a (v:= .pointer (some ⟨BO,1,none⟩)) (a0f hD 3 52 (by kernel_rfl) rfl rfl);have z0:W.cell? ⟨BO,1,none⟩=some (.slice (some ⟨fb,fo,none⟩) nf fc1):=hM.b.b0.cell 1;go_simp;exact hK (.slice (some ⟨fb,fo,none⟩) nf fc1) g W rfl (Ev.refl hM.b.tw) hM
   |5,_,ho =>
    cases ho;have f53:=a0a (v:= .slice (some ⟨fb,fo,none⟩) nf fc1) (a0f hD 4 53 (by kernel_rfl) rfl rfl);go_simp;exact hK (.int .i64 (nf:Nat)) g W rfl (Ev.refl hM.b.tw) hM
   |6,_,ho =>
    cases ho;have f51:=a0a (v:= .int .i64 (k:Nat)) (a0f hD 2 51 (by kernel_rfl) rfl rfl);have f54:=a0a (v:= .int .i64 (nf:Nat)) (a0f hD 5 54 (by kernel_rfl) rfl rfl);go_simp;exact hK (.int .i64 (p:Nat)) g W rfl (Ev.refl hM.b.tw) hM
   |7,_,ho =>
    cases ho;go_simp;have hb:Below W.heap.size W (W.alloc (.cells d3q 9)):=(zR _ _).alloc (yR _) _;exact hK (.slice (some ⟨W.heap.size,0,none⟩) 5 5) g _ ⟨_,rfl,Blk.new _ _ _,fun hs=>Nat.lt_irrefl _ (hM.b.tw.lt hs)⟩ (Ev.of_below hM.b.tw hb) (hM.up hb)
   |8,_,ho =>
    cases ho;have f6:=a0a (v:= .int .i64 (n:Nat)) (hA.at_ (k:=6) (by kernel_rfl));go_simp;exact hK (.int .i64 (n:Nat)) g W rfl (Ev.refl hM.b.tw) hM
   |9,_,ho =>
    cases ho;have f57:=a0a (v:= .int .i64 (n:Nat)) (a0f hD 8 57 (by kernel_rfl) rfl rfl);go_simp;exact hK (.int .i64 (q:Nat)) g W rfl (Ev.refl hM.b.tw) hM
   |10,_,ho =>
    cases ho;have f56:=a0f hD 7 56 (by kernel_rfl) rfl rfl;have f58:=a0a (v:= .int .i64 (q:Nat)) (a0f hD 9 58 (by kernel_rfl) rfl rfl);obtain⟨Z,e56,b56,n56⟩:=f56;have f56:=a0a e56;go_simp;exact hK _ g W ⟨Z,rfl,b56,n56⟩ (Ev.refl hM.b.tw) hM
   |11,_,ho =>
    cases ho;have f59:=a0f hD 10 59 (by kernel_rfl) rfl rfl;obtain⟨Z,e59,b59,n59⟩:=f59;have f59:=a0a e59;have ct:=hpt W Z b59;go_simp;exact hK (.string s) g W rfl (Ev.refl hM.b.tw) hM
   |i+12,hi,_=>exact absurd hi (by omega)
  ·intro bb g W hM hA hall
   have h50:bb.eval (.tmp 50)= .slice (some ⟨fb,fo,none⟩) nf fc1:=hall 1 (by omega) _ _ rfl rfl;have h55:bb.eval (.tmp 55)= .int .i64 (p:Nat):=hall 6 (by omega) _ _ rfl rfl;have h60:bb.eval (.tmp 60)= .string s:=hall 11 (by omega) _ _ rfl rfl;have hfr:=hA.frame [T,T,T,T,T,T,T,T,T,T,T,T,T,T,T,T,T,T,T,T,T,T,T,T,T,T,T,T,T,T,T,T,T,T,T,T,T,T,T,T,T,T,T,T,T,T,T,T,T,F,F,F,F,F,F,F,F,F,F,F,F,T,T,T,T,T,T,T,T,T,T,T,T,T,T,T,T,T,T,T,T,T,T,T,T,T,T,T,T,T,T,T,T,T,T,T,T,T,T,T,T,T,T,T,T,T,T,T,T,T,T,T,T,T,T,T,T,T,T,T,T,T,T,T,T,T,T,T,T,T,T,T,T,T,T,T,T,T,T,T,T,T,T,T,T,T,T,T,T,T,T,T,T,T,T,T,T,T,T,T,T,T,T,T,T,T,T,T,T,T,T,T,T,T,T,T,T,T,T,T,T,T,T,T,T,T,T,T,T,T,T,T,T,T,T,T,T,T,T,T,T,T,T,T,T,T,T,T,T,T,T,T,T,T,T,T,T,T,T,T,T,T,T,T,T,T,T,T,T,T,T,T,T,T,T,T,T,T,T,T,T,T,T,T,T,T,T,T,T,T,T,T,T,T,T,T,T,T,T,T,T,T,T,T,T,T,T,T,T,T,T,T,T,T,T,T,T,T,T,T,T,T,T,T,T,T,T,T,T,T,T,T,T,T,T,T,T,T,T,T,T,T,T,T,T,T,T,T,T,T,T,T,T,T,T,T,T,T,T,T,T,T,T,T,T,T,T,T,T,T,T,T,T,T,T,T,T,T,T,T,T,T,T,T,T,T,T,T,T,T,T,T,T,T,T,T,T,T,T,T,T,T,T,T,T,T,T,T,T,T,T,T,T,T] _ rfl (by kernel_rfl);clear hall hA;obtain⟨f,hf⟩:∃f:Nat→Value,(fun k=>bb.tmps.getD k undef)=f:=⟨_,rfl⟩;have g50:f 50= .slice (some ⟨fb,fo,none⟩) nf fc1:=by rw[←hf,←h50];rfl
   have g55:f 55= .int .i64 (p:Nat):=by rw[←hf,←h55];rfl
   have g60:f 60= .string s:=by rw[←hf,←h60];rfl
   rw[hf] at hfr;clear hf h50 h55 h60;subst hfr;simp only[a2k,g50,g55,g60,Nat.reduceAdd];clear g50 g55 g60;simp only[List.drop_succ_cons,List.drop_zero];obtain⟨id',cs',ns',wt',ds',d0,d1,d2,d3,d4,-⟩:=SL.face5 hM.b.tw hM.b.s1 hpf;obtain⟨hX,z9⟩:=hM.store a1m hM.b.s1 hOf p 1 .str rfl (.string s) (CT.ok_str hs);go_wp2_with fail;go_meet;exact⟨_,_,_,_,_,_,_,_,_,⟨hX,hOe,hOf,hOw⟩,OddR.refl _ _ _ _⟩
theorem b7o:a0q 2:=by
 unfold a0q;intro U w ev fv wv pv ne nf nw l hI q0 q1 q2 fq0 fq1 fq2 hcase;have hnf:=hI.nf;have hne:=hI.ne;have hnw:=hI.nw;have hnp:=hI.np;go_enter func31,ntmps31;go_upto_region 1 with fail;refine a0g (fun W1 hW1=> ?_);have h1:=(((OY.init (TW.none w)).box #[ev,fv,wv,pv] 37).box (qC q0 q1 q2) 23).box #[.slice none 0 0,.slice none 0 0,.slice none 0 0,.slice none 0 0] 37;obtain⟨ea,ec,rfl,hec⟩:=hI.e.form;obtain⟨fa,fc,rfl,hfc⟩:=hI.f.form;obtain⟨wa,wc,rfl,hwc⟩:=hI.w.form;obtain⟨pa,pc,rfl,hpc⟩:=hI.p.form;obtain⟨BM,hBM⟩:∃b,w.heap.size=b:=⟨_,rfl⟩;simp only[World.size_alloc] at h1;rw[←hW1,hBM] at h1;rw[hBM];obtain⟨BQ,hBQ⟩:∃b,BM+1=b:=⟨_,rfl⟩;obtain⟨BR,hBR⟩:∃b,BM+1+1=b:=⟨_,rfl⟩;rw[hBR,hBQ] at h1;rw[hBR,hBQ];have hI1:=hI.up h1.bel;obtain⟨m0,m1,m2,m3⟩:=a0l h1.b2;clear hW1;go_upto_region 2 with (first
  |(go_at_call 76;(with_reducible refine (a1j U W1 _ _ _ _ ne nf nw l hI1).mono ?_);rintro e WC⟨SC,ev1,fv1,wv1,pv1,rfl,hR,hev⟩;obtain⟨ea1,ec1,rfl,hec1⟩:=hR.e.form;obtain⟨fa1,fc1,rfl,hfc1⟩:=hR.f.form;obtain⟨wa1,wc1,rfl,hwc1⟩:=hR.w.form;obtain⟨pa1,pc1,rfl,hpc1⟩:=(a0b a2l hR.row (by omega)).form)
  |fail)
 have hSn:∀b,SC b→w.heap.size≤b:=fun b hb=>(hev.new b hb).elim (fun h=>h.elim) (fun h=>Nat.le_trans h1.size h)
 have hPC:OP noB w _ WC _ _ _ l:=⟨((((h1.evn hev).add (a0z hR.w)).add (a0z hR.f)).add (a0z hR.e)),a1v hR.row h1.size,fun g hg hs=>hs.elim (fun h=>h.elim) (fun h=>hR.off g hg h),by simp⟩;refine a0g (fun WD hWD=> ?_);have hPD:=hPC.box #[.slice ea1 ne ec1,.slice fa1 nf fc1,.slice wa1 nw wc1,.slice pa1 l.length pc1] 37 (by decide);obtain⟨BO,hBO⟩:∃b,WC.heap.size=b:=⟨_,rfl⟩;rw[←hWD,hBO] at hPD;rw[hBO];have hO:OO w BO BR BQ BM q0 q1 q2 _ _ WD _ _ _ _ ne nf nw l:=⟨hPD,a0y hR.e hSn,a0y hR.f hSn,a0y hR.w hSn⟩;clear hPD hPC hR hev hSn hWD hBO h1 hI1 m0 m1 m2 m3;obtain⟨S9,hS9⟩:∃S:BS,(fun b=>False∨SC b)=S:=⟨_,rfl⟩;rw[hS9] at hO;clear hS9 hI;obtain⟨n,hn,hn60⟩:∃n:Nat,q1 % 60=(n:Int)∧n<60:=⟨(q1 % 60).toNat,by omega,by omega⟩;obtain⟨k,hk,hk64⟩:∃n:Nat,q2 % 64=(n:Int)∧n<64:=⟨(q2 % 64).toNat,by omega,by omega⟩;obtain⟨r,hr,hr17⟩:∃n:Nat,q0 % 17=(n:Int)∧n<17:=⟨(q0 % 17).toNat,by omega,by omega⟩;have hrN:=Lib.hid (show r=2 by omega);clear hcase;have hm1:=a0p q1 60 WD fq1 (by decide) (by decide);have hm2:=a0p q2 64 WD fq2 (by decide) (by decide);have hm3:=a0p q0 17 WD fq0 (by decide) (by decide);rw[hn] at hm1;rw[hk] at hm2;rw[hr] at hm3;obtain⟨i0,i1,i2⟩:WD.cell? ⟨BQ,0,none⟩=some (.int .i64 q0)∧WD.cell? ⟨BQ,1,none⟩=some (.int .i64 q1)∧WD.cell? ⟨BQ,2,none⟩=some (.int .i64 q2):=⟨hO.p.b.b2.cell 0,hO.p.b.b2.cell 1,hO.p.b.b2.cell 2⟩;go_upto_block 0 with (first
  |(go_at_call 77;(with_reducible refine hm1.mono ?_);rintro e W'⟨rfl,rfl⟩)
  |(go_at_call 77;(with_reducible refine hm2.mono ?_);rintro e W'⟨rfl,rfl⟩)
  |(go_at_call 77;(with_reducible refine hm3.mono ?_);rintro e W'⟨rfl,rfl⟩)
  |fail)
 clear hm1 hm2 hm3 hr hn hk hBM hBQ hBR;generalize hM0: #[Value.slice ea ne ec,.slice fa nf fc,.slice wa nw wc,.slice pa l.length pc]=M0 at hO;go_cut [] (fun wx=>∃S ev' fv' wv' pv' ne' nf' nw' l',OO w BO BR BQ BM q0 q1 q2 M0 S wx ev' fv' wv' pv' ne' nf' nw' l'∧OddR ne nf nw l ne' nf' nw' l')
 case rest =>
  obtain⟨S',ev',fv',wv',pv',ne',nf',nw',l',hO',hR⟩:=hcut;obtain⟨e1,c1,rfl,-⟩:=hO'.p.b.s0.form;obtain⟨e2,c2,rfl,-⟩:=hO'.p.b.s1.form;obtain⟨e3,c3,rfl,-⟩:=hO'.p.b.s2.form;obtain⟨e4,c4,rfl,-⟩:=(a0b a2l hO'.p.row (by have:=hR.p;omega)).form;obtain⟨b0,b1,b2,b3⟩:=a0l hO'.p.b.b0;obtain⟨r0,r1,r2,r3⟩:=a0l hO'.p.b.b1;have z0:=hO'.p.b.b1.frozen 0;have z1:=hO'.p.b.b1.frozen 1;have z2:=hO'.p.b.b1.frozen 2;have z3:=hO'.p.b.b1.frozen 3;have hX:=((((hO'.p.tail.put (i:=0) (v:= .slice e1 ne' c1) rfl rfl).put (i:=1) (v:= .slice e2 nf' c2) rfl rfl).put (i:=2) (v:= .slice e3 nw' c3) rfl rfl).put (i:=3) (v:= .slice e4 l'.length c4) (c':= #[.slice e1 ne' c1,.slice e2 nf' c2,.slice e3 nw' c3,.slice e4 l'.length c4]) rfl rfl);go_wp2_with fail;exact bodyPost_ret (results_cell_row (by rfl) _ _ BR 37 _ (0,0) _ (by rfl) hX.b.b0 underlying37 (by rfl) (by kernel_rfl)) rfl ⟨S',_,_,_,_,ne',nf',nw',l',rfl,⟨hX.b.s0,hX.b.s1,hX.b.s2,hX.row,hX.off⟩,hR,hX.b.o.ev⟩
 case first =>
  obtain⟨b0,b1,b2,b3⟩:=a0l hO.p.b.b0;clear hM0;obtain rfl:=hrN.out;by_cases hf0:nf=0
  ·subst hf0
   go_wp2_with fail;go_meet;exact⟨_,_,_,_,_,_,_,_,_,hO,OddR.refl _ _ _ _⟩
  obtain⟨p,hp,hpf⟩:∃p:Nat,Int.tmod (k:Int) (nf:Int)=(p:Int)∧p<nf:=⟨k % nf,by rw[Int.tmod_eq_emod_of_nonneg (by omega)];omega,Nat.mod_lt _ (by omega)⟩;have hpI:(p:Int)<(nf:Int):=by omega
  have hfI:(0:Int)<(nf:Int):=by omega
  have hfI2:((nf:Int)==0)=false:=by simpa using hf0
  obtain⟨fb,fo,fc',heq,hfc',-⟩:=hO.p.b.s1.some_ (by omega)
  cases heq;obtain⟨id,cs,ns,wt,ds,c0,c1,c2,c3,c4,f0,f1,f2,f3,f4⟩:=SL.face5 hO.p.b.tw hO.p.b.s1 hpf;have hst:=fun i ct h u hu=>hO.p.store a1m hO.p.b.s1 hO.of p i ct h u hu
  obtain⟨s,hs,htx⟩:=a6i n (by omega);have z9:WD.frozen? ⟨fb,fo+p*5+2,none⟩=false:=(hst 2 .str rfl (.string ⟨#[]⟩) (CT.ok_str (by decide))).2;have hX:=fun u hu=>(hst 2 .str rfl u hu).1
  clear hst;go_upto_region 12 with fail;first|with_reducible refine a0c 9 (by kernel_rfl) (by kernel_rfl) ?_|with_reducible refine a0d 9 (by kernel_rfl) (by kernel_rfl) ?_
  simp only[List.take_succ_cons,List.take_zero,List.drop_succ_cons,List.drop_zero];repeat (first|go_big_quiet_step ((go_at_call 79;exact Calls.grow_of (htx _)))|quiet_step ((go_at_call 79;exact Calls.grow_of (htx _))))
  refine wpQuiet_nil ?_;intro _ hw_;obtain⟨p,hw_⟩:=hw_;subst hw_;go_wp2_with fail;go_meet;exact⟨_,_,_,_,_,_,_,_,_,⟨(hX _ (CT.ok_str hs)).up (Go.below_growBy _ _),hO.oe,hO.of,hO.ow⟩,OddR.refl _ _ _ _⟩
theorem b7p:a0q 3:=by
 unfold a0q;intro U w ev fv wv pv ne nf nw l hI q0 q1 q2 fq0 fq1 fq2 hcase;have hnf:=hI.nf;have hne:=hI.ne;have hnw:=hI.nw;have hnp:=hI.np;go_enter func31,ntmps31;go_upto_region 1 with fail;refine a0g (fun W1 hW1=> ?_);have h1:=(((OY.init (TW.none w)).box #[ev,fv,wv,pv] 37).box (qC q0 q1 q2) 23).box #[.slice none 0 0,.slice none 0 0,.slice none 0 0,.slice none 0 0] 37;obtain⟨ea,ec,rfl,hec⟩:=hI.e.form;obtain⟨fa,fc,rfl,hfc⟩:=hI.f.form;obtain⟨wa,wc,rfl,hwc⟩:=hI.w.form;obtain⟨pa,pc,rfl,hpc⟩:=hI.p.form;obtain⟨BM,hBM⟩:∃b,w.heap.size=b:=⟨_,rfl⟩;simp only[World.size_alloc] at h1;rw[←hW1,hBM] at h1;rw[hBM];obtain⟨BQ,hBQ⟩:∃b,BM+1=b:=⟨_,rfl⟩;obtain⟨BR,hBR⟩:∃b,BM+1+1=b:=⟨_,rfl⟩;rw[hBR,hBQ] at h1;rw[hBR,hBQ];have hI1:=hI.up h1.bel;obtain⟨m0,m1,m2,m3⟩:=a0l h1.b2;clear hW1;go_upto_region 2 with (first
  |(go_at_call 76;(with_reducible refine (a1j U W1 _ _ _ _ ne nf nw l hI1).mono ?_);rintro e WC⟨SC,ev1,fv1,wv1,pv1,rfl,hR,hev⟩;obtain⟨ea1,ec1,rfl,hec1⟩:=hR.e.form;obtain⟨fa1,fc1,rfl,hfc1⟩:=hR.f.form;obtain⟨wa1,wc1,rfl,hwc1⟩:=hR.w.form;obtain⟨pa1,pc1,rfl,hpc1⟩:=(a0b a2l hR.row (by omega)).form)
  |fail)
 have hSn:∀b,SC b→w.heap.size≤b:=fun b hb=>(hev.new b hb).elim (fun h=>h.elim) (fun h=>Nat.le_trans h1.size h)
 have hPC:OP noB w _ WC _ _ _ l:=⟨((((h1.evn hev).add (a0z hR.w)).add (a0z hR.f)).add (a0z hR.e)),a1v hR.row h1.size,fun g hg hs=>hs.elim (fun h=>h.elim) (fun h=>hR.off g hg h),by simp⟩;refine a0g (fun WD hWD=> ?_);have hPD:=hPC.box #[.slice ea1 ne ec1,.slice fa1 nf fc1,.slice wa1 nw wc1,.slice pa1 l.length pc1] 37 (by decide);obtain⟨BO,hBO⟩:∃b,WC.heap.size=b:=⟨_,rfl⟩;rw[←hWD,hBO] at hPD;rw[hBO];have hO:OO w BO BR BQ BM q0 q1 q2 _ _ WD _ _ _ _ ne nf nw l:=⟨hPD,a0y hR.e hSn,a0y hR.f hSn,a0y hR.w hSn⟩;clear hPD hPC hR hev hSn hWD hBO h1 hI1 m0 m1 m2 m3;obtain⟨S9,hS9⟩:∃S:BS,(fun b=>False∨SC b)=S:=⟨_,rfl⟩;rw[hS9] at hO;clear hS9 hI;obtain⟨n,hn,hn60⟩:∃n:Nat,q1 % 60=(n:Int)∧n<60:=⟨(q1 % 60).toNat,by omega,by omega⟩;obtain⟨k,hk,hk64⟩:∃n:Nat,q2 % 64=(n:Int)∧n<64:=⟨(q2 % 64).toNat,by omega,by omega⟩;obtain⟨r,hr,hr17⟩:∃n:Nat,q0 % 17=(n:Int)∧n<17:=⟨(q0 % 17).toNat,by omega,by omega⟩;have hrN:=Lib.hid (show r=3 by omega);clear hcase;have hm1:=a0p q1 60 WD fq1 (by decide) (by decide);have hm2:=a0p q2 64 WD fq2 (by decide) (by decide);have hm3:=a0p q0 17 WD fq0 (by decide) (by decide);rw[hn] at hm1;rw[hk] at hm2;rw[hr] at hm3;obtain⟨i0,i1,i2⟩:WD.cell? ⟨BQ,0,none⟩=some (.int .i64 q0)∧WD.cell? ⟨BQ,1,none⟩=some (.int .i64 q1)∧WD.cell? ⟨BQ,2,none⟩=some (.int .i64 q2):=⟨hO.p.b.b2.cell 0,hO.p.b.b2.cell 1,hO.p.b.b2.cell 2⟩;go_upto_block 0 with (first
  |(go_at_call 77;(with_reducible refine hm1.mono ?_);rintro e W'⟨rfl,rfl⟩)
  |(go_at_call 77;(with_reducible refine hm2.mono ?_);rintro e W'⟨rfl,rfl⟩)
  |(go_at_call 77;(with_reducible refine hm3.mono ?_);rintro e W'⟨rfl,rfl⟩)
  |fail)
 clear hm1 hm2 hm3 hr hn hk hBM hBQ hBR;generalize hM0: #[Value.slice ea ne ec,.slice fa nf fc,.slice wa nw wc,.slice pa l.length pc]=M0 at hO;go_cut [] (fun wx=>∃S ev' fv' wv' pv' ne' nf' nw' l',OO w BO BR BQ BM q0 q1 q2 M0 S wx ev' fv' wv' pv' ne' nf' nw' l'∧OddR ne nf nw l ne' nf' nw' l')
 case rest =>
  obtain⟨S',ev',fv',wv',pv',ne',nf',nw',l',hO',hR⟩:=hcut;obtain⟨e1,c1,rfl,-⟩:=hO'.p.b.s0.form;obtain⟨e2,c2,rfl,-⟩:=hO'.p.b.s1.form;obtain⟨e3,c3,rfl,-⟩:=hO'.p.b.s2.form;obtain⟨e4,c4,rfl,-⟩:=(a0b a2l hO'.p.row (by have:=hR.p;omega)).form;obtain⟨b0,b1,b2,b3⟩:=a0l hO'.p.b.b0;obtain⟨r0,r1,r2,r3⟩:=a0l hO'.p.b.b1;have z0:=hO'.p.b.b1.frozen 0;have z1:=hO'.p.b.b1.frozen 1;have z2:=hO'.p.b.b1.frozen 2;have z3:=hO'.p.b.b1.frozen 3;have hX:=((((hO'.p.tail.put (i:=0) (v:= .slice e1 ne' c1) rfl rfl).put (i:=1) (v:= .slice e2 nf' c2) rfl rfl).put (i:=2) (v:= .slice e3 nw' c3) rfl rfl).put (i:=3) (v:= .slice e4 l'.length c4) (c':= #[.slice e1 ne' c1,.slice e2 nf' c2,.slice e3 nw' c3,.slice e4 l'.length c4]) rfl rfl);go_wp2_with fail;exact bodyPost_ret (results_cell_row (by rfl) _ _ BR 37 _ (0,0) _ (by rfl) hX.b.b0 underlying37 (by rfl) (by kernel_rfl)) rfl ⟨S',_,_,_,_,ne',nf',nw',l',rfl,⟨hX.b.s0,hX.b.s1,hX.b.s2,hX.row,hX.off⟩,hR,hX.b.o.ev⟩
 case first =>
  obtain⟨b0,b1,b2,b3⟩:=a0l hO.p.b.b0;clear hM0;obtain rfl:=hrN.out;by_cases hf0:nf=0
  ·subst hf0
   go_wp2_with fail;go_meet;exact⟨_,_,_,_,_,_,_,_,_,hO,OddR.refl _ _ _ _⟩
  obtain⟨p,hp,hpf⟩:∃p:Nat,Int.tmod (k:Int) (nf:Int)=(p:Int)∧p<nf:=⟨k % nf,by rw[Int.tmod_eq_emod_of_nonneg (by omega)];omega,Nat.mod_lt _ (by omega)⟩;have hpI:(p:Int)<(nf:Int):=by omega
  have hfI:(0:Int)<(nf:Int):=by omega
  have hfI2:((nf:Int)==0)=false:=by simpa using hf0
  obtain⟨fb,fo,fc',heq,hfc',-⟩:=hO.p.b.s1.some_ (by omega)
  cases heq;obtain⟨id,cs,ns,wt,ds,c0,c1,c2,c3,c4,f0,f1,f2,f3,f4⟩:=SL.face5 hO.p.b.tw hO.p.b.s1 hpf;have hst:=fun i ct h u hu=>hO.p.store a1m hO.p.b.s1 hO.of p i ct h u hu
  obtain⟨z,hz,fz⟩:∃z,IntKind.i64.wrap ((n:Int)*6)=z∧a0k z:=⟨_,rfl,a0m _⟩;have z9:WD.frozen? ⟨fb,fo+p*5+3,none⟩=false:=(hst 3 .int rfl (.int .i64 0) (CT.ok_int (by decide))).2;have hX:=fun u hu=>(hst 3 .int rfl u hu).1
  clear hst;go_upto_region 15 with fail;first|with_reducible refine a0c 9 (by kernel_rfl) (by kernel_rfl) ?_|with_reducible refine a0d 9 (by kernel_rfl) (by kernel_rfl) ?_
  simp only[List.take_succ_cons,List.take_zero,List.drop_succ_cons,List.drop_zero];repeat (first|go_big_quiet_step (fail)|quiet_step (fail))
  refine wpQuiet_nil ?_;intro _ hw_;obtain⟨p,hw_⟩:=hw_;subst hw_;go_wp2_with fail;go_meet;exact⟨_,_,_,_,_,_,_,_,_,⟨(hX _ (CT.ok_int (by first|exact fz|exact a0j _|exact a0m _))).up (Go.below_growBy _ _),hO.oe,hO.of,hO.ow⟩,OddR.refl _ _ _ _⟩
theorem b7q:a0q 4:=by
 unfold a0q;intro U w ev fv wv pv ne nf nw l hI q0 q1 q2 fq0 fq1 fq2 hcase;have hnf:=hI.nf;have hne:=hI.ne;have hnw:=hI.nw;have hnp:=hI.np;go_enter func31,ntmps31;go_upto_region 1 with fail;refine a0g (fun W1 hW1=> ?_);have h1:=(((OY.init (TW.none w)).box #[ev,fv,wv,pv] 37).box (qC q0 q1 q2) 23).box #[.slice none 0 0,.slice none 0 0,.slice none 0 0,.slice none 0 0] 37;obtain⟨ea,ec,rfl,hec⟩:=hI.e.form;obtain⟨fa,fc,rfl,hfc⟩:=hI.f.form;obtain⟨wa,wc,rfl,hwc⟩:=hI.w.form;obtain⟨pa,pc,rfl,hpc⟩:=hI.p.form;obtain⟨BM,hBM⟩:∃b,w.heap.size=b:=⟨_,rfl⟩;simp only[World.size_alloc] at h1;rw[←hW1,hBM] at h1;rw[hBM];obtain⟨BQ,hBQ⟩:∃b,BM+1=b:=⟨_,rfl⟩;obtain⟨BR,hBR⟩:∃b,BM+1+1=b:=⟨_,rfl⟩;rw[hBR,hBQ] at h1;rw[hBR,hBQ];have hI1:=hI.up h1.bel;obtain⟨m0,m1,m2,m3⟩:=a0l h1.b2;clear hW1;go_upto_region 2 with (first
  |(go_at_call 76;(with_reducible refine (a1j U W1 _ _ _ _ ne nf nw l hI1).mono ?_);rintro e WC⟨SC,ev1,fv1,wv1,pv1,rfl,hR,hev⟩;obtain⟨ea1,ec1,rfl,hec1⟩:=hR.e.form;obtain⟨fa1,fc1,rfl,hfc1⟩:=hR.f.form;obtain⟨wa1,wc1,rfl,hwc1⟩:=hR.w.form;obtain⟨pa1,pc1,rfl,hpc1⟩:=(a0b a2l hR.row (by omega)).form)
  |fail)
 have hSn:∀b,SC b→w.heap.size≤b:=fun b hb=>(hev.new b hb).elim (fun h=>h.elim) (fun h=>Nat.le_trans h1.size h)
 have hPC:OP noB w _ WC _ _ _ l:=⟨((((h1.evn hev).add (a0z hR.w)).add (a0z hR.f)).add (a0z hR.e)),a1v hR.row h1.size,fun g hg hs=>hs.elim (fun h=>h.elim) (fun h=>hR.off g hg h),by simp⟩;refine a0g (fun WD hWD=> ?_);have hPD:=hPC.box #[.slice ea1 ne ec1,.slice fa1 nf fc1,.slice wa1 nw wc1,.slice pa1 l.length pc1] 37 (by decide);obtain⟨BO,hBO⟩:∃b,WC.heap.size=b:=⟨_,rfl⟩;rw[←hWD,hBO] at hPD;rw[hBO];have hO:OO w BO BR BQ BM q0 q1 q2 _ _ WD _ _ _ _ ne nf nw l:=⟨hPD,a0y hR.e hSn,a0y hR.f hSn,a0y hR.w hSn⟩;clear hPD hPC hR hev hSn hWD hBO h1 hI1 m0 m1 m2 m3;obtain⟨S9,hS9⟩:∃S:BS,(fun b=>False∨SC b)=S:=⟨_,rfl⟩;rw[hS9] at hO;clear hS9 hI;obtain⟨n,hn,hn60⟩:∃n:Nat,q1 % 60=(n:Int)∧n<60:=⟨(q1 % 60).toNat,by omega,by omega⟩;obtain⟨k,hk,hk64⟩:∃n:Nat,q2 % 64=(n:Int)∧n<64:=⟨(q2 % 64).toNat,by omega,by omega⟩;obtain⟨r,hr,hr17⟩:∃n:Nat,q0 % 17=(n:Int)∧n<17:=⟨(q0 % 17).toNat,by omega,by omega⟩;have hrN:=Lib.hid (show r=4 by omega);clear hcase;have hm1:=a0p q1 60 WD fq1 (by decide) (by decide);have hm2:=a0p q2 64 WD fq2 (by decide) (by decide);have hm3:=a0p q0 17 WD fq0 (by decide) (by decide);rw[hn] at hm1;rw[hk] at hm2;rw[hr] at hm3;obtain⟨i0,i1,i2⟩:WD.cell? ⟨BQ,0,none⟩=some (.int .i64 q0)∧WD.cell? ⟨BQ,1,none⟩=some (.int .i64 q1)∧WD.cell? ⟨BQ,2,none⟩=some (.int .i64 q2):=⟨hO.p.b.b2.cell 0,hO.p.b.b2.cell 1,hO.p.b.b2.cell 2⟩;go_upto_block 0 with (first
  |(go_at_call 77;(with_reducible refine hm1.mono ?_);rintro e W'⟨rfl,rfl⟩)
  |(go_at_call 77;(with_reducible refine hm2.mono ?_);rintro e W'⟨rfl,rfl⟩)
  |(go_at_call 77;(with_reducible refine hm3.mono ?_);rintro e W'⟨rfl,rfl⟩)
  |fail)
 clear hm1 hm2 hm3 hr hn hk hBM hBQ hBR;generalize hM0: #[Value.slice ea ne ec,.slice fa nf fc,.slice wa nw wc,.slice pa l.length pc]=M0 at hO;go_cut [] (fun wx=>∃S ev' fv' wv' pv' ne' nf' nw' l',OO w BO BR BQ BM q0 q1 q2 M0 S wx ev' fv' wv' pv' ne' nf' nw' l'∧OddR ne nf nw l ne' nf' nw' l')
 case rest =>
  obtain⟨S',ev',fv',wv',pv',ne',nf',nw',l',hO',hR⟩:=hcut;obtain⟨e1,c1,rfl,-⟩:=hO'.p.b.s0.form;obtain⟨e2,c2,rfl,-⟩:=hO'.p.b.s1.form;obtain⟨e3,c3,rfl,-⟩:=hO'.p.b.s2.form;obtain⟨e4,c4,rfl,-⟩:=(a0b a2l hO'.p.row (by have:=hR.p;omega)).form;obtain⟨b0,b1,b2,b3⟩:=a0l hO'.p.b.b0;obtain⟨r0,r1,r2,r3⟩:=a0l hO'.p.b.b1;have z0:=hO'.p.b.b1.frozen 0;have z1:=hO'.p.b.b1.frozen 1;have z2:=hO'.p.b.b1.frozen 2;have z3:=hO'.p.b.b1.frozen 3;have hX:=((((hO'.p.tail.put (i:=0) (v:= .slice e1 ne' c1) rfl rfl).put (i:=1) (v:= .slice e2 nf' c2) rfl rfl).put (i:=2) (v:= .slice e3 nw' c3) rfl rfl).put (i:=3) (v:= .slice e4 l'.length c4) (c':= #[.slice e1 ne' c1,.slice e2 nf' c2,.slice e3 nw' c3,.slice e4 l'.length c4]) rfl rfl);go_wp2_with fail;exact bodyPost_ret (results_cell_row (by rfl) _ _ BR 37 _ (0,0) _ (by rfl) hX.b.b0 underlying37 (by rfl) (by kernel_rfl)) rfl ⟨S',_,_,_,_,ne',nf',nw',l',rfl,⟨hX.b.s0,hX.b.s1,hX.b.s2,hX.row,hX.off⟩,hR,hX.b.o.ev⟩
 case first =>
  obtain⟨b0,b1,b2,b3⟩:=a0l hO.p.b.b0;clear hM0;obtain rfl:=hrN.out;by_cases hf0:nf=0
  ·subst hf0
   go_wp2_with fail;go_meet;exact⟨_,_,_,_,_,_,_,_,_,hO,OddR.refl _ _ _ _⟩
  obtain⟨p,hp,hpf⟩:∃p:Nat,Int.tmod (k:Int) (nf:Int)=(p:Int)∧p<nf:=⟨k % nf,by rw[Int.tmod_eq_emod_of_nonneg (by omega)];omega,Nat.mod_lt _ (by omega)⟩;have hpI:(p:Int)<(nf:Int):=by omega
  have hfI:(0:Int)<(nf:Int):=by omega
  have hfI2:((nf:Int)==0)=false:=by simpa using hf0
  obtain⟨fb,fo,fc',heq,hfc',-⟩:=hO.p.b.s1.some_ (by omega)
  cases heq;obtain⟨id,cs,ns,wt,ds,c0,c1,c2,c3,c4,f0,f1,f2,f3,f4⟩:=SL.face5 hO.p.b.tw hO.p.b.s1 hpf;have hst:=fun i ct h u hu=>hO.p.store a1m hO.p.b.s1 hO.of p i ct h u hu
  have z9:WD.frozen? ⟨fb,fo+p*5+4,none⟩=false:=(hst 4 .int rfl (.int .i64 0) (CT.ok_int (by decide))).2;have hX:=fun u hu=>(hst 4 .int rfl u hu).1
  clear hst;go_upto_region 18 with fail;first|with_reducible refine a0c 9 (by kernel_rfl) (by kernel_rfl) ?_|with_reducible refine a0d 9 (by kernel_rfl) (by kernel_rfl) ?_
  simp only[List.take_succ_cons,List.take_zero,List.drop_succ_cons,List.drop_zero];repeat (first|go_big_quiet_step (fail)|quiet_step (fail))
  refine wpQuiet_nil ?_;intro _ hw_;obtain⟨p,hw_⟩:=hw_;subst hw_;go_wp2_with fail;go_meet;exact⟨_,_,_,_,_,_,_,_,_,⟨(hX _ (CT.ok_int (by first|exact a0j _|exact a0m _|exact⟨by omega,by omega⟩))).up (Go.below_growBy _ _),hO.oe,hO.of,hO.ow⟩,OddR.refl _ _ _ _⟩
end
end Go.Proofs.YtfocdbjceedagaaGreatDoor
