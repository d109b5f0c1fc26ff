/-
  Parts.
-/
import Derived.Test.YtfocdbjceedagaaGreatDoorXbm
set_option linter.unusedVariables false
set_option linter.unusedSimpArgs false
set_option maxHeartbeats 60000000
set_option maxRecDepth 100000
namespace Go.Proofs.YtfocdbjceedagaaGreatDoor
open Tryz
section
open Go Go.RowKit Go.Shelf
attribute [local go_sem] Oper.semAt_some
attribute [local go_sem ↓] Go.wp_at_zero Go.wp_at_succ
theorem b5e:a0q 12:=by
 unfold a0q;intro U w ev fv wv pv ne nf nw l hI q0 q1 q2 fq0 fq1 fq2 hcase;have hnf:=hI.nf;have hne:=hI.ne;have hnw:=hI.nw;have hnp:=hI.np;go_enter func31,ntmps31;go_upto_region 1 with fail;refine a0g (fun W1 hW1=> ?_);have h1:=(((OY.init (TW.none w)).box #[ev,fv,wv,pv] 37).box (qC q0 q1 q2) 23).box #[.slice none 0 0,.slice none 0 0,.slice none 0 0,.slice none 0 0] 37;obtain⟨ea,ec,rfl,hec⟩:=hI.e.form;obtain⟨fa,fc,rfl,hfc⟩:=hI.f.form;obtain⟨wa,wc,rfl,hwc⟩:=hI.w.form;obtain⟨pa,pc,rfl,hpc⟩:=hI.p.form;obtain⟨BM,hBM⟩:∃b,w.heap.size=b:=⟨_,rfl⟩;simp only[World.size_alloc] at h1;rw[←hW1,hBM] at h1;rw[hBM];obtain⟨BQ,hBQ⟩:∃b,BM+1=b:=⟨_,rfl⟩;obtain⟨BR,hBR⟩:∃b,BM+1+1=b:=⟨_,rfl⟩;rw[hBR,hBQ] at h1;rw[hBR,hBQ];have hI1:=hI.up h1.bel;obtain⟨m0,m1,m2,m3⟩:=a0l h1.b2;clear hW1;go_upto_region 2 with (first
  |(go_at_call 76;(with_reducible refine (a1j U W1 _ _ _ _ ne nf nw l hI1).mono ?_);rintro e WC⟨SC,ev1,fv1,wv1,pv1,rfl,hR,hev⟩;obtain⟨ea1,ec1,rfl,hec1⟩:=hR.e.form;obtain⟨fa1,fc1,rfl,hfc1⟩:=hR.f.form;obtain⟨wa1,wc1,rfl,hwc1⟩:=hR.w.form;obtain⟨pa1,pc1,rfl,hpc1⟩:=(a0b a2l hR.row (by omega)).form)
  |fail)
 have hSn:∀b,SC b→w.heap.size≤b:=fun b hb=>(hev.new b hb).elim (fun h=>h.elim) (fun h=>Nat.le_trans h1.size h)
 have hPC:OP noB w _ WC _ _ _ l:=⟨((((h1.evn hev).add (a0z hR.w)).add (a0z hR.f)).add (a0z hR.e)),a1v hR.row h1.size,fun g hg hs=>hs.elim (fun h=>h.elim) (fun h=>hR.off g hg h),by simp⟩;refine a0g (fun WD hWD=> ?_);have hPD:=hPC.box #[.slice ea1 ne ec1,.slice fa1 nf fc1,.slice wa1 nw wc1,.slice pa1 l.length pc1] 37 (by decide);obtain⟨BO,hBO⟩:∃b,WC.heap.size=b:=⟨_,rfl⟩;rw[←hWD,hBO] at hPD;rw[hBO];have hO:OO w BO BR BQ BM q0 q1 q2 _ _ WD _ _ _ _ ne nf nw l:=⟨hPD,a0y hR.e hSn,a0y hR.f hSn,a0y hR.w hSn⟩;clear hPD hPC hR hev hSn hWD hBO h1 hI1 m0 m1 m2 m3;obtain⟨S9,hS9⟩:∃S:BS,(fun b=>False∨SC b)=S:=⟨_,rfl⟩;rw[hS9] at hO;clear hS9 hI;obtain⟨n,hn,hn60⟩:∃n:Nat,q1 % 60=(n:Int)∧n<60:=⟨(q1 % 60).toNat,by omega,by omega⟩;obtain⟨k,hk,hk64⟩:∃n:Nat,q2 % 64=(n:Int)∧n<64:=⟨(q2 % 64).toNat,by omega,by omega⟩;obtain⟨r,hr,hr17⟩:∃n:Nat,q0 % 17=(n:Int)∧n<17:=⟨(q0 % 17).toNat,by omega,by omega⟩;have hrN:=Lib.hid (show r=12 by omega);clear hcase;have hm1:=a0p q1 60 WD fq1 (by decide) (by decide);have hm2:=a0p q2 64 WD fq2 (by decide) (by decide);have hm3:=a0p q0 17 WD fq0 (by decide) (by decide);rw[hn] at hm1;rw[hk] at hm2;rw[hr] at hm3;obtain⟨i0,i1,i2⟩:WD.cell? ⟨BQ,0,none⟩=some (.int .i64 q0)∧WD.cell? ⟨BQ,1,none⟩=some (.int .i64 q1)∧WD.cell? ⟨BQ,2,none⟩=some (.int .i64 q2):=⟨hO.p.b.b2.cell 0,hO.p.b.b2.cell 1,hO.p.b.b2.cell 2⟩;go_upto_block 0 with (first
  |(go_at_call 77;(with_reducible refine hm1.mono ?_);rintro e W'⟨rfl,rfl⟩)
  |(go_at_call 77;(with_reducible refine hm2.mono ?_);rintro e W'⟨rfl,rfl⟩)
  |(go_at_call 77;(with_reducible refine hm3.mono ?_);rintro e W'⟨rfl,rfl⟩)
  |fail)
 clear hm1 hm2 hm3 hr hn hk hBM hBQ hBR;generalize hM0: #[Value.slice ea ne ec,.slice fa nf fc,.slice wa nw wc,.slice pa l.length pc]=M0 at hO;go_cut [] (fun wx=>∃S ev' fv' wv' pv' ne' nf' nw' l',OO w BO BR BQ BM q0 q1 q2 M0 S wx ev' fv' wv' pv' ne' nf' nw' l'∧OddR ne nf nw l ne' nf' nw' l')
 case rest =>
  obtain⟨S',ev',fv',wv',pv',ne',nf',nw',l',hO',hR⟩:=hcut;obtain⟨e1,c1,rfl,-⟩:=hO'.p.b.s0.form;obtain⟨e2,c2,rfl,-⟩:=hO'.p.b.s1.form;obtain⟨e3,c3,rfl,-⟩:=hO'.p.b.s2.form;obtain⟨e4,c4,rfl,-⟩:=(a0b a2l hO'.p.row (by have:=hR.p;omega)).form;obtain⟨b0,b1,b2,b3⟩:=a0l hO'.p.b.b0;obtain⟨r0,r1,r2,r3⟩:=a0l hO'.p.b.b1;have z0:=hO'.p.b.b1.frozen 0;have z1:=hO'.p.b.b1.frozen 1;have z2:=hO'.p.b.b1.frozen 2;have z3:=hO'.p.b.b1.frozen 3;have hX:=((((hO'.p.tail.put (i:=0) (v:= .slice e1 ne' c1) rfl rfl).put (i:=1) (v:= .slice e2 nf' c2) rfl rfl).put (i:=2) (v:= .slice e3 nw' c3) rfl rfl).put (i:=3) (v:= .slice e4 l'.length c4) (c':= #[.slice e1 ne' c1,.slice e2 nf' c2,.slice e3 nw' c3,.slice e4 l'.length c4]) rfl rfl);go_wp2_with fail;exact bodyPost_ret (results_cell_row (by rfl) _ _ BR 37 _ (0,0) _ (by rfl) hX.b.b0 underlying37 (by rfl) (by kernel_rfl)) rfl ⟨S',_,_,_,_,ne',nf',nw',l',rfl,⟨hX.b.s0,hX.b.s1,hX.b.s2,hX.row,hX.off⟩,hR,hX.b.o.ev⟩
 case first =>
  obtain⟨b0,b1,b2,b3⟩:=a0l hO.p.b.b0;clear hM0;obtain rfl:=hrN.out;by_cases hp0:l=[]
  ·subst hp0
   go_wp2_with fail;go_meet;exact⟨_,_,_,_,_,_,_,_,_,hO,OddR.refl _ _ _ _⟩
  have hlp:0<l.length:=List.length_pos_iff.2 hp0;obtain⟨g,rfl,hgc⟩:=b7j hO.p.row hp0;obtain⟨m,hm⟩:∃m,l.length=m:=⟨_,rfl⟩;obtain⟨ix,hp,hpl⟩:∃ix:Nat,Int.tmod (k:Int) (m:Int)=(ix:Int)∧ix<l.length:=⟨k % m,by rw[Int.tmod_eq_emod_of_nonneg (by omega)];omega,by rw[hm];exact Nat.mod_lt _ (by omega)⟩;have hpI:(ix:Int)<(m:Int):=by omega
  have hfI:(0:Int)<(m:Int):=by omega
  have hfI2:((m:Int)==0)=false:=by simp;omega
  obtain⟨y,hy⟩:∃y,l[ix]=y:=⟨_,rfl⟩;obtain⟨s,hs,htx⟩:=a6i n (by omega);have hR:OddR ne nf nw l ne nf nw (l.set ix { y with nm:=s }):=OddR.set hpl (fun h=>by rw[hy] at h;exact⟨h.id,h.x,h.y,h.wt,show s.size≤1000 from by omega⟩) (fun h=>by rw[hy] at h;exact h);obtain⟨c5,z5⟩:=hO.p.cellP (by omega) hpl (i:=4) (by omega);rw[hy] at c5;replace c5:WD.cell? ⟨g,ix*7+4,none⟩=some _:=c5;have hX:=hO.p.setRow hpl (i:=4) (y:={ y with nm:=s }) (u:=(.string s)) (by omega) (by rw[hy];rfl);rw[hm] at b3 hX;replace hm:=Lib.hid hm;clear hp0 hy hlp;go_upto_region 42 with fail;first|with_reducible refine a0c 9 (by kernel_rfl) (by kernel_rfl) ?_|with_reducible refine a0d 9 (by kernel_rfl) (by kernel_rfl) ?_
  simp only[List.take_succ_cons,List.take_zero,List.drop_succ_cons,List.drop_zero];repeat (first|go_big_quiet_step ((go_at_call 79;exact Calls.grow_of (htx _)))|quiet_step ((go_at_call 79;exact Calls.grow_of (htx _))))
  refine wpQuiet_nil ?_;intro _ hw_;obtain⟨p,hw_⟩:=hw_;subst hw_;go_wp2_with fail;go_meet;exact⟨_,_,_,_,_,_,_,_,_,⟨hX.up (Go.below_growBy _ _),hO.oe,hO.of,hO.ow⟩,hR⟩
theorem b5f:a0q 13:=by
 unfold a0q;intro U w ev fv wv pv ne nf nw l hI q0 q1 q2 fq0 fq1 fq2 hcase;have hnf:=hI.nf;have hne:=hI.ne;have hnw:=hI.nw;have hnp:=hI.np;go_enter func31,ntmps31;go_upto_region 1 with fail;refine a0g (fun W1 hW1=> ?_);have h1:=(((OY.init (TW.none w)).box #[ev,fv,wv,pv] 37).box (qC q0 q1 q2) 23).box #[.slice none 0 0,.slice none 0 0,.slice none 0 0,.slice none 0 0] 37;obtain⟨ea,ec,rfl,hec⟩:=hI.e.form;obtain⟨fa,fc,rfl,hfc⟩:=hI.f.form;obtain⟨wa,wc,rfl,hwc⟩:=hI.w.form;obtain⟨pa,pc,rfl,hpc⟩:=hI.p.form;obtain⟨BM,hBM⟩:∃b,w.heap.size=b:=⟨_,rfl⟩;simp only[World.size_alloc] at h1;rw[←hW1,hBM] at h1;rw[hBM];obtain⟨BQ,hBQ⟩:∃b,BM+1=b:=⟨_,rfl⟩;obtain⟨BR,hBR⟩:∃b,BM+1+1=b:=⟨_,rfl⟩;rw[hBR,hBQ] at h1;rw[hBR,hBQ];have hI1:=hI.up h1.bel;obtain⟨m0,m1,m2,m3⟩:=a0l h1.b2;clear hW1;go_upto_region 2 with (first
  |(go_at_call 76;(with_reducible refine (a1j U W1 _ _ _ _ ne nf nw l hI1).mono ?_);rintro e WC⟨SC,ev1,fv1,wv1,pv1,rfl,hR,hev⟩;obtain⟨ea1,ec1,rfl,hec1⟩:=hR.e.form;obtain⟨fa1,fc1,rfl,hfc1⟩:=hR.f.form;obtain⟨wa1,wc1,rfl,hwc1⟩:=hR.w.form;obtain⟨pa1,pc1,rfl,hpc1⟩:=(a0b a2l hR.row (by omega)).form)
  |fail)
 have hSn:∀b,SC b→w.heap.size≤b:=fun b hb=>(hev.new b hb).elim (fun h=>h.elim) (fun h=>Nat.le_trans h1.size h)
 have hPC:OP noB w _ WC _ _ _ l:=⟨((((h1.evn hev).add (a0z hR.w)).add (a0z hR.f)).add (a0z hR.e)),a1v hR.row h1.size,fun g hg hs=>hs.elim (fun h=>h.elim) (fun h=>hR.off g hg h),by simp⟩;refine a0g (fun WD hWD=> ?_);have hPD:=hPC.box #[.slice ea1 ne ec1,.slice fa1 nf fc1,.slice wa1 nw wc1,.slice pa1 l.length pc1] 37 (by decide);obtain⟨BO,hBO⟩:∃b,WC.heap.size=b:=⟨_,rfl⟩;rw[←hWD,hBO] at hPD;rw[hBO];have hO:OO w BO BR BQ BM q0 q1 q2 _ _ WD _ _ _ _ ne nf nw l:=⟨hPD,a0y hR.e hSn,a0y hR.f hSn,a0y hR.w hSn⟩;clear hPD hPC hR hev hSn hWD hBO h1 hI1 m0 m1 m2 m3;obtain⟨S9,hS9⟩:∃S:BS,(fun b=>False∨SC b)=S:=⟨_,rfl⟩;rw[hS9] at hO;clear hS9 hI;obtain⟨n,hn,hn60⟩:∃n:Nat,q1 % 60=(n:Int)∧n<60:=⟨(q1 % 60).toNat,by omega,by omega⟩;obtain⟨k,hk,hk64⟩:∃n:Nat,q2 % 64=(n:Int)∧n<64:=⟨(q2 % 64).toNat,by omega,by omega⟩;obtain⟨r,hr,hr17⟩:∃n:Nat,q0 % 17=(n:Int)∧n<17:=⟨(q0 % 17).toNat,by omega,by omega⟩;have hrN:=Lib.hid (show r=13 by omega);clear hcase;have hm1:=a0p q1 60 WD fq1 (by decide) (by decide);have hm2:=a0p q2 64 WD fq2 (by decide) (by decide);have hm3:=a0p q0 17 WD fq0 (by decide) (by decide);rw[hn] at hm1;rw[hk] at hm2;rw[hr] at hm3;obtain⟨i0,i1,i2⟩:WD.cell? ⟨BQ,0,none⟩=some (.int .i64 q0)∧WD.cell? ⟨BQ,1,none⟩=some (.int .i64 q1)∧WD.cell? ⟨BQ,2,none⟩=some (.int .i64 q2):=⟨hO.p.b.b2.cell 0,hO.p.b.b2.cell 1,hO.p.b.b2.cell 2⟩;go_upto_block 0 with (first
  |(go_at_call 77;(with_reducible refine hm1.mono ?_);rintro e W'⟨rfl,rfl⟩)
  |(go_at_call 77;(with_reducible refine hm2.mono ?_);rintro e W'⟨rfl,rfl⟩)
  |(go_at_call 77;(with_reducible refine hm3.mono ?_);rintro e W'⟨rfl,rfl⟩)
  |fail)
 clear hm1 hm2 hm3 hr hn hk hBM hBQ hBR;generalize hM0: #[Value.slice ea ne ec,.slice fa nf fc,.slice wa nw wc,.slice pa l.length pc]=M0 at hO;go_cut [] (fun wx=>∃S ev' fv' wv' pv' ne' nf' nw' l',OO w BO BR BQ BM q0 q1 q2 M0 S wx ev' fv' wv' pv' ne' nf' nw' l'∧OddR ne nf nw l ne' nf' nw' l')
 case rest =>
  obtain⟨S',ev',fv',wv',pv',ne',nf',nw',l',hO',hR⟩:=hcut;obtain⟨e1,c1,rfl,-⟩:=hO'.p.b.s0.form;obtain⟨e2,c2,rfl,-⟩:=hO'.p.b.s1.form;obtain⟨e3,c3,rfl,-⟩:=hO'.p.b.s2.form;obtain⟨e4,c4,rfl,-⟩:=(a0b a2l hO'.p.row (by have:=hR.p;omega)).form;obtain⟨b0,b1,b2,b3⟩:=a0l hO'.p.b.b0;obtain⟨r0,r1,r2,r3⟩:=a0l hO'.p.b.b1;have z0:=hO'.p.b.b1.frozen 0;have z1:=hO'.p.b.b1.frozen 1;have z2:=hO'.p.b.b1.frozen 2;have z3:=hO'.p.b.b1.frozen 3;have hX:=((((hO'.p.tail.put (i:=0) (v:= .slice e1 ne' c1) rfl rfl).put (i:=1) (v:= .slice e2 nf' c2) rfl rfl).put (i:=2) (v:= .slice e3 nw' c3) rfl rfl).put (i:=3) (v:= .slice e4 l'.length c4) (c':= #[.slice e1 ne' c1,.slice e2 nf' c2,.slice e3 nw' c3,.slice e4 l'.length c4]) rfl rfl);go_wp2_with fail;exact bodyPost_ret (results_cell_row (by rfl) _ _ BR 37 _ (0,0) _ (by rfl) hX.b.b0 underlying37 (by rfl) (by kernel_rfl)) rfl ⟨S',_,_,_,_,ne',nf',nw',l',rfl,⟨hX.b.s0,hX.b.s1,hX.b.s2,hX.row,hX.off⟩,hR,hX.b.o.ev⟩
 case first =>
  obtain⟨b0,b1,b2,b3⟩:=a0l hO.p.b.b0;clear hM0;obtain rfl:=hrN.out;by_cases hp0:l=[]
  ·subst hp0
   go_wp2_with fail;go_meet;exact⟨_,_,_,_,_,_,_,_,_,hO,OddR.refl _ _ _ _⟩
  have hlp:0<l.length:=List.length_pos_iff.2 hp0;obtain⟨g,rfl,hgc⟩:=b7j hO.p.row hp0;obtain⟨m,hm⟩:∃m,l.length=m:=⟨_,rfl⟩;obtain⟨ix,hp,hpl⟩:∃ix:Nat,Int.tmod (k:Int) (m:Int)=(ix:Int)∧ix<l.length:=⟨k % m,by rw[Int.tmod_eq_emod_of_nonneg (by omega)];omega,by rw[hm];exact Nat.mod_lt _ (by omega)⟩;have hpI:(ix:Int)<(m:Int):=by omega
  have hfI:(0:Int)<(m:Int):=by omega
  have hfI2:((m:Int)==0)=false:=by simp;omega
  have hj1:IntKind.i64.wrap ((ix:Int)+1)=(ix:Int)+1:=a0u (by omega) (by omega);have hj2:(ix:Int)+1≤(m:Int):=by omega
  have hj3:((ix:Int)+1).toNat=ix+1:=by omega
  have hj4:(ix:Int)≤(pc1:Int):=by omega
  have hR:OddR ne nf nw l ne nf nw (l.take ix++l.drop (ix+1)):=OddR.del hpl;have hkl:(l.take ix).length=ix:=by rw[List.length_take];omega
  rw[hm] at b3;replace hm:=Lib.hid hm;clear hp0 hlp;go_upto_region 45 with fail;first|with_reducible refine a0c 17 (by kernel_rfl) (by kernel_rfl) ?_|with_reducible refine a0d 17 (by kernel_rfl) (by kernel_rfl) ?_
  simp only[List.take_succ_cons,List.take_zero,List.drop_succ_cons,List.drop_zero];repeat (first|go_big_quiet_step (fail)|quiet_step (fail))
  refine wpQuiet_nil ?_;intro _ hw_;obtain⟨p,hw_⟩:=hw_;subst hw_;have hPw:=hO.p.up (Go.below_growBy WD p);have hL:=a0b a2l hPw.row (by omega);have hF:=a6j hPw.row;have hT:=b1w (k:=ix+1) hL hF (by omega);rw[hm.out] at hT;have e1:Option.map (fun x=>Addr.add x ((ix+1)*plE.s)) (some (⟨g,0,none⟩:Addr))=some ⟨g,(ix+1)*7,none⟩:=by simp[Addr.add,plE]
  rw[e1] at hT;refine El.joinO (n0:=(WD.growBy p).heap.size) a2l d2f (by rfl) _ _ (by rfl) w.heap.size (by rfl) (l.take ix) (c9q hPw.row (by omega)) ⟨_,_,by rw[hkl]⟩ (l.drop (ix+1)) (by rfl) ?hx ?hf (by rw[List.length_take,List.length_drop];omega) hPw.b.size ?_
  case hx=>go_simp;have h9:=hT.1;rw[World.size_growBy] at h9;exact h9
  case hf=>go_simp;have h9:=hT.2;rw[List.length_drop] at h9;exact h9
  rintro v9 w9 hr9 hg9⟨g9,c9,rfl⟩ hn9;obtain⟨l2,hl2⟩:∃x,l.take ix++l.drop (ix+1)=x:=⟨_,rfl⟩;rw[hl2] at hr9 hR;simp only[hl2];have hP9:=hPw.more hr9 hg9 hn9;have d3:=hP9.b.b0.cell 3;have z3:=hP9.b.b0.frozen 3;have hQ:=hP9.put (i:=3) (v:= .slice (some ⟨g9,0,none⟩) l2.length c9) rfl rfl;go_wp2_with fail
  all_goals go_meet
  all_goals exact⟨_,_,_,_,_,_,_,_,_,⟨hQ,hO.oe,hO.of,hO.ow⟩,hR⟩
theorem b5g:a0q 14:=by
 unfold a0q;intro U w ev fv wv pv ne nf nw l hI q0 q1 q2 fq0 fq1 fq2 hcase;have hnf:=hI.nf;have hne:=hI.ne;have hnw:=hI.nw;have hnp:=hI.np;go_enter func31,ntmps31;go_upto_region 1 with fail;refine a0g (fun W1 hW1=> ?_);have h1:=(((OY.init (TW.none w)).box #[ev,fv,wv,pv] 37).box (qC q0 q1 q2) 23).box #[.slice none 0 0,.slice none 0 0,.slice none 0 0,.slice none 0 0] 37;obtain⟨ea,ec,rfl,hec⟩:=hI.e.form;obtain⟨fa,fc,rfl,hfc⟩:=hI.f.form;obtain⟨wa,wc,rfl,hwc⟩:=hI.w.form;obtain⟨pa,pc,rfl,hpc⟩:=hI.p.form;obtain⟨BM,hBM⟩:∃b,w.heap.size=b:=⟨_,rfl⟩;simp only[World.size_alloc] at h1;rw[←hW1,hBM] at h1;rw[hBM];obtain⟨BQ,hBQ⟩:∃b,BM+1=b:=⟨_,rfl⟩;obtain⟨BR,hBR⟩:∃b,BM+1+1=b:=⟨_,rfl⟩;rw[hBR,hBQ] at h1;rw[hBR,hBQ];have hI1:=hI.up h1.bel;obtain⟨m0,m1,m2,m3⟩:=a0l h1.b2;clear hW1;go_upto_region 2 with (first
  |(go_at_call 76;(with_reducible refine (a1j U W1 _ _ _ _ ne nf nw l hI1).mono ?_);rintro e WC⟨SC,ev1,fv1,wv1,pv1,rfl,hR,hev⟩;obtain⟨ea1,ec1,rfl,hec1⟩:=hR.e.form;obtain⟨fa1,fc1,rfl,hfc1⟩:=hR.f.form;obtain⟨wa1,wc1,rfl,hwc1⟩:=hR.w.form;obtain⟨pa1,pc1,rfl,hpc1⟩:=(a0b a2l hR.row (by omega)).form)
  |fail)
 have hSn:∀b,SC b→w.heap.size≤b:=fun b hb=>(hev.new b hb).elim (fun h=>h.elim) (fun h=>Nat.le_trans h1.size h)
 have hPC:OP noB w _ WC _ _ _ l:=⟨((((h1.evn hev).add (a0z hR.w)).add (a0z hR.f)).add (a0z hR.e)),a1v hR.row h1.size,fun g hg hs=>hs.elim (fun h=>h.elim) (fun h=>hR.off g hg h),by simp⟩;refine a0g (fun WD hWD=> ?_);have hPD:=hPC.box #[.slice ea1 ne ec1,.slice fa1 nf fc1,.slice wa1 nw wc1,.slice pa1 l.length pc1] 37 (by decide);obtain⟨BO,hBO⟩:∃b,WC.heap.size=b:=⟨_,rfl⟩;rw[←hWD,hBO] at hPD;rw[hBO];have hO:OO w BO BR BQ BM q0 q1 q2 _ _ WD _ _ _ _ ne nf nw l:=⟨hPD,a0y hR.e hSn,a0y hR.f hSn,a0y hR.w hSn⟩;clear hPD hPC hR hev hSn hWD hBO h1 hI1 m0 m1 m2 m3;obtain⟨S9,hS9⟩:∃S:BS,(fun b=>False∨SC b)=S:=⟨_,rfl⟩;rw[hS9] at hO;clear hS9 hI;obtain⟨n,hn,hn60⟩:∃n:Nat,q1 % 60=(n:Int)∧n<60:=⟨(q1 % 60).toNat,by omega,by omega⟩;obtain⟨k,hk,hk64⟩:∃n:Nat,q2 % 64=(n:Int)∧n<64:=⟨(q2 % 64).toNat,by omega,by omega⟩;obtain⟨r,hr,hr17⟩:∃n:Nat,q0 % 17=(n:Int)∧n<17:=⟨(q0 % 17).toNat,by omega,by omega⟩;have hrN:=Lib.hid (show r=14 by omega);clear hcase;have hm1:=a0p q1 60 WD fq1 (by decide) (by decide);have hm2:=a0p q2 64 WD fq2 (by decide) (by decide);have hm3:=a0p q0 17 WD fq0 (by decide) (by decide);rw[hn] at hm1;rw[hk] at hm2;rw[hr] at hm3;obtain⟨i0,i1,i2⟩:WD.cell? ⟨BQ,0,none⟩=some (.int .i64 q0)∧WD.cell? ⟨BQ,1,none⟩=some (.int .i64 q1)∧WD.cell? ⟨BQ,2,none⟩=some (.int .i64 q2):=⟨hO.p.b.b2.cell 0,hO.p.b.b2.cell 1,hO.p.b.b2.cell 2⟩;go_upto_block 0 with (first
  |(go_at_call 77;(with_reducible refine hm1.mono ?_);rintro e W'⟨rfl,rfl⟩)
  |(go_at_call 77;(with_reducible refine hm2.mono ?_);rintro e W'⟨rfl,rfl⟩)
  |(go_at_call 77;(with_reducible refine hm3.mono ?_);rintro e W'⟨rfl,rfl⟩)
  |fail)
 clear hm1 hm2 hm3 hr hn hk hBM hBQ hBR;generalize hM0: #[Value.slice ea ne ec,.slice fa nf fc,.slice wa nw wc,.slice pa l.length pc]=M0 at hO;go_cut [] (fun wx=>∃S ev' fv' wv' pv' ne' nf' nw' l',OO w BO BR BQ BM q0 q1 q2 M0 S wx ev' fv' wv' pv' ne' nf' nw' l'∧OddR ne nf nw l ne' nf' nw' l')
 case rest =>
  obtain⟨S',ev',fv',wv',pv',ne',nf',nw',l',hO',hR⟩:=hcut;obtain⟨e1,c1,rfl,-⟩:=hO'.p.b.s0.form;obtain⟨e2,c2,rfl,-⟩:=hO'.p.b.s1.form;obtain⟨e3,c3,rfl,-⟩:=hO'.p.b.s2.form;obtain⟨e4,c4,rfl,-⟩:=(a0b a2l hO'.p.row (by have:=hR.p;omega)).form;obtain⟨b0,b1,b2,b3⟩:=a0l hO'.p.b.b0;obtain⟨r0,r1,r2,r3⟩:=a0l hO'.p.b.b1;have z0:=hO'.p.b.b1.frozen 0;have z1:=hO'.p.b.b1.frozen 1;have z2:=hO'.p.b.b1.frozen 2;have z3:=hO'.p.b.b1.frozen 3;have hX:=((((hO'.p.tail.put (i:=0) (v:= .slice e1 ne' c1) rfl rfl).put (i:=1) (v:= .slice e2 nf' c2) rfl rfl).put (i:=2) (v:= .slice e3 nw' c3) rfl rfl).put (i:=3) (v:= .slice e4 l'.length c4) (c':= #[.slice e1 ne' c1,.slice e2 nf' c2,.slice e3 nw' c3,.slice e4 l'.length c4]) rfl rfl);go_wp2_with fail;exact bodyPost_ret (results_cell_row (by rfl) _ _ BR 37 _ (0,0) _ (by rfl) hX.b.b0 underlying37 (by rfl) (by kernel_rfl)) rfl ⟨S',_,_,_,_,ne',nf',nw',l',rfl,⟨hX.b.s0,hX.b.s1,hX.b.s2,hX.row,hX.off⟩,hR,hX.b.o.ev⟩
 case first =>
  obtain⟨b0,b1,b2,b3⟩:=a0l hO.p.b.b0;clear hM0;obtain rfl:=hrN.out;obtain⟨s,hs,htx⟩:=a6i k (by omega);obtain⟨q,hq,hq4⟩:∃q:Nat,Int.tmod (n:Int) 4=(q:Int)∧q<4:=⟨n % 4,by rw[Int.tmod_eq_emod_of_nonneg (by omega)];omega,by omega⟩;have hqe:(n:Int) % 4=(q:Int):=by rw[←hq,Int.tmod_eq_emod_of_nonneg (by omega)]
  have hqI:(q:Int)<4:=by omega
  obtain⟨z,hz,hc⟩:∃z:Int,a0k z∧d3l[q]? =some (.int .i64 z):=by
   match q,hq4 with
   |0,_=>exact⟨_,by decide,rfl⟩
   |1,_=>exact⟨_,by decide,rfl⟩
   |2,_=>exact⟨_,by decide,rfl⟩
   |3,_=>exact⟨_,by decide,rfl⟩
  have hpt:∀W Z,Blk W Z d3l 3→W.cell? ⟨Z,q,none⟩=some (.int .i64 z):=fun W Z h=>(h.cell q).trans hc
  have hOe:=hO.oe;have hOf:=hO.of;have hOw:=hO.ow;have hP:=hO.p;go_upto_region 47 with fail;clear hc hO i0 i1 i2 b0 b1 b2 b3;refine Go.wp_region_reln 24 (by kernel_rfl) (by kernel_rfl) (fun _ g W=>OP noB w g W [(BO,#[.slice ea1 ne ec1,.slice fa1 nf fc1,.slice wa1 nw wc1,.slice pa1 l.length pc1],37),(BR,mZ,37),(BQ,qC q0 q1 q2,23),(BM,M0,37)] [(206,.slice ea1 ne ec1,ne),(140,.slice fa1 nf fc1,nf),(149,.slice wa1 nw wc1,nw)] (.slice pa1 l.length pc1) l) (fun g W g' W'=>Ev noB g W g' W') (FG14 BO n k q pa1 l pc1 s z) (fun _ _ _ _ _ _ h g=>h.kept g) S9 (hP.up (zR _ _).drew) ?_ ?_
  ·intro i o hi ho c bb g W hc hM hA hD K hK
   match i,hi,ho with
   |0,_,ho =>
    cases ho;have f5:=a0a (v:= .pointer (some ⟨BO,0,none⟩)) (hA.at_ (k:=5) (by kernel_rfl));go_simp;exact hK (.pointer (some ⟨BO,3,none⟩)) g W rfl (Ev.refl hM.b.tw) hM
   |1,_,ho =>
    cases ho;have f309:=a0a (v:= .pointer (some ⟨BO,3,none⟩)) (a0f hD 0 309 (by kernel_rfl) rfl rfl);have z0:W.cell? ⟨BO,3,none⟩=some (.slice pa1 l.length pc1):=hM.b.b0.cell 3;go_simp;exact hK (.slice pa1 l.length pc1) g W rfl (Ev.refl hM.b.tw) hM
   |2,_,ho =>
    cases ho;go_simp;have hb:Below W.heap.size W (W.alloc (.cells d3l 3)):=(zR _ _).alloc (yR _) _;exact hK (.slice (some ⟨W.heap.size,0,none⟩) 4 4) g _ ⟨_,rfl,Blk.new _ _ _,fun hs=>Nat.lt_irrefl _ (hM.b.tw.lt hs)⟩ (Ev.of_below hM.b.tw hb) (hM.up hb)
   |3,_,ho =>
    cases ho;have f6:=a0a (v:= .int .i64 (n:Nat)) (hA.at_ (k:=6) (by kernel_rfl));go_simp;exact hK (.int .i64 (n:Nat)) g W rfl (Ev.refl hM.b.tw) hM
   |4,_,ho =>
    cases ho;have f312:=a0a (v:= .int .i64 (n:Nat)) (a0f hD 3 312 (by kernel_rfl) rfl rfl);go_simp;exact hK (.int .i64 (q:Nat)) g W rfl (Ev.refl hM.b.tw) hM
   |5,_,ho =>
    cases ho;have f311:=a0f hD 2 311 (by kernel_rfl) rfl rfl;have f313:=a0a (v:= .int .i64 (q:Nat)) (a0f hD 4 313 (by kernel_rfl) rfl rfl);obtain⟨Z,e311,b311,n311⟩:=f311;have f311:=a0a e311;go_simp;exact hK _ g W ⟨Z,rfl,b311,n311⟩ (Ev.refl hM.b.tw) hM
   |6,_,ho =>
    cases ho;have f314:=a0f hD 5 314 (by kernel_rfl) rfl rfl;obtain⟨Z,e314,b314,n314⟩:=f314;have f314:=a0a e314;have ct:=hpt W Z b314;go_simp;exact hK (.int .i64 z) g W rfl (Ev.refl hM.b.tw) hM
   |7,_,ho =>
    cases ho;have f6:=a0a (v:= .int .i64 (n:Nat)) (hA.at_ (k:=6) (by kernel_rfl));go_simp;exact hK (.int .i64 (n:Nat)) g W rfl (Ev.refl hM.b.tw) hM
   |8,_,ho =>
    cases ho;have f316:=a0a (v:= .int .i64 (n:Nat)) (a0f hD 7 316 (by kernel_rfl) rfl rfl);go_simp;exact hK _ g W ⟨_,rfl,(by first|with_reducible (first|exact a0j _|exact a0m _|assumption|exact a0n (by omega))|exact⟨by omega,by omega⟩)⟩ (Ev.refl hM.b.tw) hM
   |9,_,ho =>
    cases ho;have f315:=a0a (v:= .int .i64 z) (a0f hD 6 315 (by kernel_rfl) rfl rfl);have f317:=a0f hD 8 317 (by kernel_rfl) rfl rfl;obtain⟨x317,e317,g317⟩:=f317;have f317:=a0a e317;go_simp;exact hK _ g W ⟨_,rfl,(by first|with_reducible (first|exact a0j _|exact a0m _|assumption|exact a0n (by omega))|exact⟨by omega,by omega⟩)⟩ (Ev.refl hM.b.tw) hM
   |10,_,ho =>
    cases ho;have f6:=a0a (v:= .int .i64 (n:Nat)) (hA.at_ (k:=6) (by kernel_rfl));go_simp;exact hK (.int .i64 (n:Nat)) g W rfl (Ev.refl hM.b.tw) hM
   |11,_,ho =>
    cases ho;have f319:=a0a (v:= .int .i64 (n:Nat)) (a0f hD 10 319 (by kernel_rfl) rfl rfl);go_simp;exact hK _ g W ⟨_,rfl,(by first|with_reducible (first|exact a0j _|exact a0m _|assumption|exact a0n (by omega))|exact⟨by omega,by omega⟩)⟩ (Ev.refl hM.b.tw) hM
   |12,_,ho =>
    cases ho;have f320:=a0f hD 11 320 (by kernel_rfl) rfl rfl;obtain⟨x320,e320,g320⟩:=f320;have f320:=a0a e320;go_simp;exact hK _ g W ⟨_,rfl,(by first|with_reducible (first|exact a0j _|exact a0m _|assumption|exact a0n (by omega))|exact⟨by omega,by omega⟩)⟩ (Ev.refl hM.b.tw) hM
   |13,_,ho =>
    cases ho;have f7:=a0a (v:= .int .i64 (k:Nat)) (hA.at_ (k:=7) (by kernel_rfl));go_simp;exact hK (.int .i64 (k:Nat)) g W rfl (Ev.refl hM.b.tw) hM
   |14,_,ho =>
    cases ho;have f322:=a0a (v:= .int .i64 (k:Nat)) (a0f hD 13 322 (by kernel_rfl) rfl rfl);go_simp;exact hK _ g W ⟨_,rfl,(by first|with_reducible (first|exact a0j _|exact a0m _|assumption|exact a0n (by omega))|exact⟨by omega,by omega⟩)⟩ (Ev.refl hM.b.tw) hM
   |15,_,ho =>
    cases ho;have f323:=a0f hD 14 323 (by kernel_rfl) rfl rfl;obtain⟨x323,e323,g323⟩:=f323;have f323:=a0a e323;go_simp;exact hK _ g W ⟨_,rfl,(by first|with_reducible (first|exact a0j _|exact a0m _|assumption|exact a0n (by omega))|exact⟨by omega,by omega⟩)⟩ (Ev.refl hM.b.tw) hM
   |16,_,ho =>
    cases ho;have f321:=a0f hD 12 321 (by kernel_rfl) rfl rfl;obtain⟨x321,e321,g321⟩:=f321;have f321:=a0a e321;have f324:=a0f hD 15 324 (by kernel_rfl) rfl rfl;obtain⟨x324,e324,g324⟩:=f324;have f324:=a0a e324;go_simp;exact hK _ g W ⟨_,_,rfl,g321,g324⟩ (Ev.refl hM.b.tw) hM
   |17,_,ho =>
    cases ho;have f7:=a0a (v:= .int .i64 (k:Nat)) (hA.at_ (k:=7) (by kernel_rfl));go_simp;exact hK (.int .i64 (k:Nat)) g W rfl (Ev.refl hM.b.tw) hM
   |18,_,ho =>
    cases ho;have f326:=a0a (v:= .int .i64 (k:Nat)) (a0f hD 17 326 (by kernel_rfl) rfl rfl);go_simp;refine (htx W).mono ?_;rintro e W'⟨rfl,hb⟩;go_simp;exact hK (.string s) g W' rfl (Ev.of_below hM.b.tw hb) (hM.up hb)
   |19,_,ho =>
    cases ho;have f6:=a0a (v:= .int .i64 (n:Nat)) (hA.at_ (k:=6) (by kernel_rfl));go_simp;exact hK (.int .i64 (n:Nat)) g W rfl (Ev.refl hM.b.tw) hM
   |20,_,ho =>
    cases ho;have f328:=a0a (v:= .int .i64 (n:Nat)) (a0f hD 19 328 (by kernel_rfl) rfl rfl);go_simp;exact hK _ g W ⟨_,rfl,(by first|with_reducible (first|exact a0j _|exact a0m _|assumption|exact a0n (by omega))|exact⟨by omega,by omega⟩)⟩ (Ev.refl hM.b.tw) hM
   |21,_,ho =>
    cases ho;have f329:=a0f hD 20 329 (by kernel_rfl) rfl rfl;obtain⟨x329,e329,g329⟩:=f329;have f329:=a0a e329;go_simp;exact hK _ g W ⟨_,rfl,(by first|with_reducible (first|exact a0j _|exact a0m _|assumption|exact a0n (by omega))|exact⟨by omega,by omega⟩)⟩ (Ev.refl hM.b.tw) hM
   |22,_,ho =>
    cases ho;have f318:=a0f hD 9 318 (by kernel_rfl) rfl rfl;obtain⟨x318,e318,g318⟩:=f318;have f318:=a0a e318;have f325:=a0f hD 16 325 (by kernel_rfl) rfl rfl;have f327:=a0a (v:= .string s) (a0f hD 18 327 (by kernel_rfl) rfl rfl);have f330:=a0f hD 21 330 (by kernel_rfl) rfl rfl;obtain⟨x330,e330,g330⟩:=f330;have f330:=a0a e330;obtain⟨x9,y9,e325,hx9,hy9⟩:=f325;have f325:=a0a e325;go_simp;exact hK _ g W ⟨⟨_,_,_,_,_,_,_⟩,rfl,⟨g318,hx9,hy9,(by decide:a0k 5),(show s.size≤1000 by omega)⟩,(by decide:4≤1000)⟩ (Ev.refl hM.b.tw) hM
   |23,_,ho =>
    cases ho;have f331:=a0f hD 22 331 (by kernel_rfl) rfl rfl;obtain⟨y,e331,hy1,hy2⟩:=f331;obtain⟨i9,x9,y9,c9,n9,w9,d9⟩:=y;have f331:=a0a e331;have hb:Below W.heap.size W (W.alloc (.cells #[.int .i64 i9,.int .i64 x9,.int .i64 y9,.string c9,.string n9,.int .i64 w9,.int .i64 d9] 66)):=(zR _ _).alloc (yR _) _;go_simp;exact hK (.slice (some ⟨W.heap.size,0,none⟩) 1 1) g _ ⟨_,⟨i9,x9,y9,c9,n9,w9,d9⟩,rfl,Blk.new _ _ _,fun hs=>Nat.lt_irrefl _ (hM.b.tw.lt hs),hy1,hy2⟩ (Ev.of_below hM.b.tw hb) (hM.up hb)
   |i+24,hi,_=>exact absurd hi (by omega)
  ·intro bb g W hM hA hall
   have h310:bb.eval (.tmp 310)= .slice pa1 l.length pc1:=hall 1 (by omega) _ _ rfl rfl;obtain⟨H,y,h332,hBy,-,hy1,hy2⟩:=(show ∃H y,bb.eval (.tmp 332)= .slice (some ⟨H,0,none⟩) 1 1∧Blk W H (plE.enc y).toArray 66∧¬g H∧PcOk y∧y.cls.size≤1000 from hall 23 (by omega) _ _ rfl rfl);have hfr:=hA.frame [T,T,T,T,T,T,T,T,T,T,T,T,T,T,T,T,T,T,T,T,T,T,T,T,T,T,T,T,T,T,T,T,T,T,T,T,T,T,T,T,T,T,T,T,T,T,T,T,T,T,T,T,T,T,T,T,T,T,T,T,T,T,T,T,T,T,T,T,T,T,T,T,T,T,T,T,T,T,T,T,T,T,T,T,T,T,T,T,T,T,T,T,T,T,T,T,T,T,T,T,T,T,T,T,T,T,T,T,T,T,T,T,T,T,T,T,T,T,T,T,T,T,T,T,T,T,T,T,T,T,T,T,T,T,T,T,T,T,T,T,T,T,T,T,T,T,T,T,T,T,T,T,T,T,T,T,T,T,T,T,T,T,T,T,T,T,T,T,T,T,T,T,T,T,T,T,T,T,T,T,T,T,T,T,T,T,T,T,T,T,T,T,T,T,T,T,T,T,T,T,T,T,T,T,T,T,T,T,T,T,T,T,T,T,T,T,T,T,T,T,T,T,T,T,T,T,T,T,T,T,T,T,T,T,T,T,T,T,T,T,T,T,T,T,T,T,T,T,T,T,T,T,T,T,T,T,T,T,T,T,T,T,T,T,T,T,T,T,T,T,T,T,T,T,T,T,T,T,T,T,T,T,T,T,T,T,T,T,T,T,T,T,T,T,T,T,T,T,T,T,T,T,T,T,T,T,T,T,T,F,F,F,F,F,F,F,F,F,F,F,F,F,F,F,F,F,F,F,F,F,F,F,F,T,T,T,T,T,T,T,T,T,T,T,T,T,T,T,T,T,T,T,T,T,T,T,T,T,T,T,T,T,T,T,T,T,T,T,T,T,T,T,T,T] _ rfl (by kernel_rfl);clear hall hA;obtain⟨f,hf⟩:∃f:Nat→Value,(fun k=>bb.tmps.getD k undef)=f:=⟨_,rfl⟩;have g310:f 310= .slice pa1 l.length pc1:=by rw[←hf,←h310];rfl
   have g332:f 332= .slice (some ⟨H,0,none⟩) 1 1:=by rw[←hf,←h332];rfl
   rw[hf] at hfr;clear hf h310 h332;subst hfr;simp only[a2k,g310,g332,Nat.reduceAdd];clear g310 g332;simp only[List.drop_succ_cons,List.drop_zero];refine El.pushAt a2l d2f (by rfl) _ _ (by rfl) (by rfl) hM.row y (by rfl) hBy hM.b.size (by omega) ?_;intro v9 w9 hr9 hg9 hn9;have hR:OddR ne nf nw l ne nf nw (l++[y]):=OddR.push hy1 hy2;have hl9:(l++[y]).length≤2000:=by rw[List.length_append];simp;omega
   obtain⟨l2,hl2⟩:∃x,l++[y]=x:=⟨_,rfl⟩;rw[hl2] at hr9 hR hl9;have hP9:=hM.more hr9 hg9 hn9;have d3:=hP9.b.b0.cell 3;have z3:=hP9.b.b0.frozen 3;obtain⟨a9,c9,rfl,-⟩:=(a0b a2l hr9 (by omega)).form;have hQ:=hP9.put (i:=3) (v:= .slice a9 l2.length c9) rfl rfl;go_wp2_with fail
   all_goals go_meet
   all_goals exact⟨_,_,_,_,_,_,_,_,_,⟨hQ,hOe,hOf,hOw⟩,hR⟩
theorem b5h:a0q 15:=by
 unfold a0q;intro U w ev fv wv pv ne nf nw l hI q0 q1 q2 fq0 fq1 fq2 hcase;have hnf:=hI.nf;have hne:=hI.ne;have hnw:=hI.nw;have hnp:=hI.np;go_enter func31,ntmps31;go_upto_region 1 with fail;refine a0g (fun W1 hW1=> ?_);have h1:=(((OY.init (TW.none w)).box #[ev,fv,wv,pv] 37).box (qC q0 q1 q2) 23).box #[.slice none 0 0,.slice none 0 0,.slice none 0 0,.slice none 0 0] 37;obtain⟨ea,ec,rfl,hec⟩:=hI.e.form;obtain⟨fa,fc,rfl,hfc⟩:=hI.f.form;obtain⟨wa,wc,rfl,hwc⟩:=hI.w.form;obtain⟨pa,pc,rfl,hpc⟩:=hI.p.form;obtain⟨BM,hBM⟩:∃b,w.heap.size=b:=⟨_,rfl⟩;simp only[World.size_alloc] at h1;rw[←hW1,hBM] at h1;rw[hBM];obtain⟨BQ,hBQ⟩:∃b,BM+1=b:=⟨_,rfl⟩;obtain⟨BR,hBR⟩:∃b,BM+1+1=b:=⟨_,rfl⟩;rw[hBR,hBQ] at h1;rw[hBR,hBQ];have hI1:=hI.up h1.bel;obtain⟨m0,m1,m2,m3⟩:=a0l h1.b2;clear hW1;go_upto_region 2 with (first
  |(go_at_call 76;(with_reducible refine (a1j U W1 _ _ _ _ ne nf nw l hI1).mono ?_);rintro e WC⟨SC,ev1,fv1,wv1,pv1,rfl,hR,hev⟩;obtain⟨ea1,ec1,rfl,hec1⟩:=hR.e.form;obtain⟨fa1,fc1,rfl,hfc1⟩:=hR.f.form;obtain⟨wa1,wc1,rfl,hwc1⟩:=hR.w.form;obtain⟨pa1,pc1,rfl,hpc1⟩:=(a0b a2l hR.row (by omega)).form)
  |fail)
 have hSn:∀b,SC b→w.heap.size≤b:=fun b hb=>(hev.new b hb).elim (fun h=>h.elim) (fun h=>Nat.le_trans h1.size h)
 have hPC:OP noB w _ WC _ _ _ l:=⟨((((h1.evn hev).add (a0z hR.w)).add (a0z hR.f)).add (a0z hR.e)),a1v hR.row h1.size,fun g hg hs=>hs.elim (fun h=>h.elim) (fun h=>hR.off g hg h),by simp⟩;refine a0g (fun WD hWD=> ?_);have hPD:=hPC.box #[.slice ea1 ne ec1,.slice fa1 nf fc1,.slice wa1 nw wc1,.slice pa1 l.length pc1] 37 (by decide);obtain⟨BO,hBO⟩:∃b,WC.heap.size=b:=⟨_,rfl⟩;rw[←hWD,hBO] at hPD;rw[hBO];have hO:OO w BO BR BQ BM q0 q1 q2 _ _ WD _ _ _ _ ne nf nw l:=⟨hPD,a0y hR.e hSn,a0y hR.f hSn,a0y hR.w hSn⟩;clear hPD hPC hR hev hSn hWD hBO h1 hI1 m0 m1 m2 m3;obtain⟨S9,hS9⟩:∃S:BS,(fun b=>False∨SC b)=S:=⟨_,rfl⟩;rw[hS9] at hO;clear hS9 hI;obtain⟨n,hn,hn60⟩:∃n:Nat,q1 % 60=(n:Int)∧n<60:=⟨(q1 % 60).toNat,by omega,by omega⟩;obtain⟨k,hk,hk64⟩:∃n:Nat,q2 % 64=(n:Int)∧n<64:=⟨(q2 % 64).toNat,by omega,by omega⟩;obtain⟨r,hr,hr17⟩:∃n:Nat,q0 % 17=(n:Int)∧n<17:=⟨(q0 % 17).toNat,by omega,by omega⟩;have hrN:=Lib.hid (show r=15 by omega);clear hcase;have hm1:=a0p q1 60 WD fq1 (by decide) (by decide);have hm2:=a0p q2 64 WD fq2 (by decide) (by decide);have hm3:=a0p q0 17 WD fq0 (by decide) (by decide);rw[hn] at hm1;rw[hk] at hm2;rw[hr] at hm3;obtain⟨i0,i1,i2⟩:WD.cell? ⟨BQ,0,none⟩=some (.int .i64 q0)∧WD.cell? ⟨BQ,1,none⟩=some (.int .i64 q1)∧WD.cell? ⟨BQ,2,none⟩=some (.int .i64 q2):=⟨hO.p.b.b2.cell 0,hO.p.b.b2.cell 1,hO.p.b.b2.cell 2⟩;go_upto_block 0 with (first
  |(go_at_call 77;(with_reducible refine hm1.mono ?_);rintro e W'⟨rfl,rfl⟩)
  |(go_at_call 77;(with_reducible refine hm2.mono ?_);rintro e W'⟨rfl,rfl⟩)
  |(go_at_call 77;(with_reducible refine hm3.mono ?_);rintro e W'⟨rfl,rfl⟩)
  |fail)
 clear hm1 hm2 hm3 hr hn hk hBM hBQ hBR;generalize hM0: #[Value.slice ea ne ec,.slice fa nf fc,.slice wa nw wc,.slice pa l.length pc]=M0 at hO;go_cut [] (fun wx=>∃S ev' fv' wv' pv' ne' nf' nw' l',OO w BO BR BQ BM q0 q1 q2 M0 S wx ev' fv' wv' pv' ne' nf' nw' l'∧OddR ne nf nw l ne' nf' nw' l')
 case rest =>
  obtain⟨S',ev',fv',wv',pv',ne',nf',nw',l',hO',hR⟩:=hcut;obtain⟨e1,c1,rfl,-⟩:=hO'.p.b.s0.form;obtain⟨e2,c2,rfl,-⟩:=hO'.p.b.s1.form;obtain⟨e3,c3,rfl,-⟩:=hO'.p.b.s2.form;obtain⟨e4,c4,rfl,-⟩:=(a0b a2l hO'.p.row (by have:=hR.p;omega)).form;obtain⟨b0,b1,b2,b3⟩:=a0l hO'.p.b.b0;obtain⟨r0,r1,r2,r3⟩:=a0l hO'.p.b.b1;have z0:=hO'.p.b.b1.frozen 0;have z1:=hO'.p.b.b1.frozen 1;have z2:=hO'.p.b.b1.frozen 2;have z3:=hO'.p.b.b1.frozen 3;have hX:=((((hO'.p.tail.put (i:=0) (v:= .slice e1 ne' c1) rfl rfl).put (i:=1) (v:= .slice e2 nf' c2) rfl rfl).put (i:=2) (v:= .slice e3 nw' c3) rfl rfl).put (i:=3) (v:= .slice e4 l'.length c4) (c':= #[.slice e1 ne' c1,.slice e2 nf' c2,.slice e3 nw' c3,.slice e4 l'.length c4]) rfl rfl);go_wp2_with fail;exact bodyPost_ret (results_cell_row (by rfl) _ _ BR 37 _ (0,0) _ (by rfl) hX.b.b0 underlying37 (by rfl) (by kernel_rfl)) rfl ⟨S',_,_,_,_,ne',nf',nw',l',rfl,⟨hX.b.s0,hX.b.s1,hX.b.s2,hX.row,hX.off⟩,hR,hX.b.o.ev⟩
 case first =>
  obtain⟨b0,b1,b2,b3⟩:=a0l hO.p.b.b0;clear hM0;obtain rfl:=hrN.out;by_cases hp0:l=[]
  ·subst hp0
   go_wp2_with fail;go_meet;exact⟨_,_,_,_,_,_,_,_,_,hO,OddR.refl _ _ _ _⟩
  have hlp:0<l.length:=List.length_pos_iff.2 hp0;obtain⟨g,rfl,hgc⟩:=b7j hO.p.row hp0;obtain⟨m,hm⟩:∃m,l.length=m:=⟨_,rfl⟩;obtain⟨ix,hp,hpl⟩:∃ix:Nat,Int.tmod (k:Int) (m:Int)=(ix:Int)∧ix<l.length:=⟨k % m,by rw[Int.tmod_eq_emod_of_nonneg (by omega)];omega,by rw[hm];exact Nat.mod_lt _ (by omega)⟩;have hpI:(ix:Int)<(m:Int):=by omega
  have hfI:(0:Int)<(m:Int):=by omega
  have hfI2:((m:Int)==0)=false:=by simp;omega
  obtain⟨y,hy⟩:∃y,l[ix]=y:=⟨_,rfl⟩;obtain⟨q,hq,hqf⟩:∃q:Int,IntKind.i64.wrap ((n:Int)*5)=q∧a0k q:=⟨_,rfl,a0m _⟩;have hR:OddR ne nf nw l ne nf nw (l.set ix { y with wt:=q }):=OddR.set hpl (fun h=>by rw[hy] at h;exact⟨h.id,h.x,h.y,hqf,h.nm⟩) (fun h=>by rw[hy] at h;exact h);obtain⟨c5,z5⟩:=hO.p.cellP (by omega) hpl (i:=5) (by omega);rw[hy] at c5;replace c5:WD.cell? ⟨g,ix*7+5,none⟩=some _:=c5;have hX:=hO.p.setRow hpl (i:=5) (y:={ y with wt:=q }) (u:=(.int .i64 q)) (by omega) (by rw[hy];rfl);rw[hm] at b3 hX;replace hm:=Lib.hid hm;clear hp0 hy hlp;go_upto_region 50 with fail;first|with_reducible refine a0c 9 (by kernel_rfl) (by kernel_rfl) ?_|with_reducible refine a0d 9 (by kernel_rfl) (by kernel_rfl) ?_
  simp only[List.take_succ_cons,List.take_zero,List.drop_succ_cons,List.drop_zero];repeat (first|go_big_quiet_step (fail)|quiet_step (fail))
  refine wpQuiet_nil ?_;intro _ hw_;obtain⟨p,hw_⟩:=hw_;subst hw_;go_wp2_with fail;go_meet;subst hq;exact⟨_,_,_,_,_,_,_,_,_,⟨hX.up (Go.below_growBy _ _),hO.oe,hO.of,hO.ow⟩,hR⟩
end
end Go.Proofs.YtfocdbjceedagaaGreatDoor
