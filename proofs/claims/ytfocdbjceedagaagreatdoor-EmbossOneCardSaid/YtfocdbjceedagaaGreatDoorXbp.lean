/-
  Parts.
-/
import Derived.Test.YtfocdbjceedagaaGreatDoorXbm
set_option linter.unusedVariables false
set_option linter.unusedSimpArgs false
set_option maxHeartbeats 60000000
set_option maxRecDepth 100000
namespace Go.Proofs.YtfocdbjceedagaaGreatDoor
open Tryz
section
open Go Go.RowKit Go.Shelf
attribute [local go_sem] Oper.semAt_some
attribute [local go_sem ↓] Go.wp_at_zero Go.wp_at_succ
theorem a4d (U:BS)(w:World)(hT:TW U w)(ev fv:Value)(ne nf:Nat)(hve:SL U w 206 ev ne)(hvf:SL U w 140 fv nf)(hne:ne≤1000)(hnf:nf≤1000)(q0 q1 q2:Int)(fq0:a0k q0)(fq1:a0k q1)(fq2:a0k q2)(hcase:q0 % 13=8∨q0 % 13=9∨q0 % 13=10∨q0 % 13=11∨q0 % 13=12) :
 Calls prog 78 #[ev,fv,.agg #[.int .i64 q0,.int .i64 q1,.int .i64 q2]] w fun e w'=>∃S' ev' fv' ne' nf',e= .returned (.tuple #[ev',fv'])∧SL S' w' 206 ev' ne'∧SL S' w' 140 fv' nf'∧ne'≤ne+1∧nf'≤nf+1∧Ev noB noB w S' w':=by
 obtain⟨ea,ec,rfl,hec⟩:=hve.form;obtain⟨fa,fc,rfl,hfc⟩:=hvf.form;have h0:=(OY.init (TW.none w)).box #[.int .i64 q0,.int .i64 q1,.int .i64 q2] 23;go_enter func78,ntmps78;go_upto_region 2 with fail;refine a0g (fun W1 hW1=> ?_);obtain⟨BQ,hBQ⟩:∃b,w.heap.size=b:=⟨_,rfl⟩;rw[←hW1,hBQ] at h0;rw[hBQ];clear hW1 hBQ;go_wp2_with fail;go_loopw [8,9] (fun e1 kk wr=>∃(k:Nat) (S:BS),k≤ne∧kk= .int .i64 (k:Nat)∧OY noB w S wr [(BQ,#[.int .i64 q0,.int .i64 q1,.int .i64 q2],23)] [(206,e1,k)]∧Own w.heap.size e1) (fun _ kk _=>ne-(intOf kk).toNat)
 case atStart=>exact⟨0,_,Nat.zero_le _,rfl,h0.add (SL.nil _ _ _),a7b _⟩
 case round =>
  clear h0;obtain⟨k,S,hk,rfl,hP,hown⟩:=hrel;have hTk:=hP.old hT;have hvk:=hP.oldS hT hve;by_cases hlt:k<ne
  ·as_aux_lemma =>
    have hltI:(k:Int)<(ne:Int):=by omega
    obtain⟨eb,eo,ec',heq,hec',-⟩:=hvk.some_ (by omega)
    cases heq;obtain⟨id,ll,rr,lv,m,c0,c1,c2,c3,f0,f2,f3,hlv,hm⟩:=SL.edge hTk hvk hlt;obtain⟨la,lc,rfl,hlc⟩:=hlv.form;have hwk:IntKind.i64.wrap ((k:Int)+1)=((k+1:Nat):Int):=by rw[a0u (by omega) (by omega)];omega
    obtain⟨e10,e1c,rfl,he1c⟩:=hP.s0.form;go_upto_region 6 with fail;refine a0g (fun WE hWE=> ?_);have hP2:=(hP.box #[.int .i64 id,.slice la m lc,.int .i64 ll,.int .i64 rr] 206);obtain⟨BE,hBE⟩:∃b,wr.heap.size=b:=⟨_,rfl⟩;have hUE:Below wr.heap.size wr WE:=by rw[hWE];exact (zR _ _).alloc (yR _) _
    rw[←hWE,hBE] at hP2;rw[hBE];have hTE:=a6g hTk hUE (fun b hb=>hTk.lt hb);have hlvE:=a2x hUE (fun b hb=>hTk.lt hb) hlv;clear hP hWE hBE c0 c1 c2 c3 hTk hvk hlv hUE;have k1:WE.cell? ⟨BE,1,none⟩=some (.slice la m lc):=hP2.b0.cell 1;refine a0g (fun WF hWF=> ?_);subst hWF;have hP3:=hP2.empty 26;have hTF:=hP3.old hT;have hlvF:=a2x ((zR _ WF).alloc (yR _) (.cells #[] 26)) (fun b hb=>hTE.lt hb) hlvE;have hownF:Own w.heap.size (.slice (some ⟨WF.heap.size,0,none⟩) 0 0):=a9o hP2.size _;go_upto_region 7 with (first
     |(at_builtin;refine hP3.append_fl hTF (by rfl) _ _ 147 (by rfl) underlying147 a1k a6h (by rfl) hP3.s0 hownF (by rfl) hlvF (by omega) ?_;intro v9 S9 WG hP4 _ _;obtain⟨a3,c3,rfl,hc3⟩:=hP4.s0.form;have q1:=hP4.b0.cell 1;have y1:=hP4.b0.frozen 1)
     |fail)
    refine a0g (fun WM hWM=> ?_);simp only[Nat.zero_add] at hP4 hc3;have hP5:OY _ _ _ _ ((BE,#[.int .i64 id,.slice a3 m c3,.int .i64 ll,.int .i64 rr],_)::_) _:=hP4.put hWM rfl;clear hP2 hP3 hP4 hWM q1 y1 hTF hlvF hownF hTE hlvE k1;obtain⟨q0,q1,q2,q3⟩:=ed4 hP5.b0;obtain⟨HS,hHS⟩:∃b,WM.heap.size=b:=⟨_,rfl⟩;go_wp2_with (first
     |(at_builtin;refine hP5.append_n (by rfl) _ _ 32 (by rfl) underlying32 a1u (by rfl) hP5.s2 hown (by rfl) hHS (a6z f0 f2 f3 hP5.s0 hm) rfl (by omega) ?_;intro e9 S9 W9 hP9 hown9)
     |fail)
    refine⟨⟨k+1,S9,hlt,rfl,⟨⟨hP9.tail.o.ev,hP9.tail.o.bx,hP9.tail.o.ne,fun q hq=>hP9.o.sl q (by rw[List.mem_singleton.1 hq];exact List.mem_cons_self ..)⟩,hP9.bel⟩,hown9⟩,?_⟩;simp only[intOf,Int.toNat_natCast];omega
  ·have hge:((k:Int)<(ne:Int))=False:=by simp;omega
   obtain rfl:k=ne:=by omega
   clear hTk hvk;obtain⟨e10,e1c,rfl,he1c⟩:=hP.s0.form;have hPf:=hP.empty 140;have hTF:=hPf.old hT;have hlvF:=hPf.oldS hT hvf;have hownF:Own w.heap.size (.slice (some ⟨wr.heap.size,0,none⟩) 0 0):=a9o hP.size _;go_upto_region 9 with (first
    |(at_builtin;refine hPf.append_fl hTF (by rfl) _ _ 33 (by rfl) underlying33 a1m a8e (by rfl) hPf.s0 hownF (by rfl) hlvF (by omega) ?_;intro v9 S9 W9 hP9 hownf _;obtain⟨f10,f1c,rfl,hf1c⟩:=hP9.s0.form)
    |fail)
   simp only[Nat.zero_add] at hP9 hf1c hownf;have hO:O7 w S9 W9 (.slice e10 k e1c) (.slice f10 nf f1c) k nf [(BQ,#[.int .i64 q0,.int .i64 q1,.int .i64 q2],23)]:=⟨⟨⟨hP9.o.ev,hP9.o.bx,hP9.o.ne,fun q hq=>hP9.o.sl q (by
    rcases List.mem_cons.1 hq with rfl|hq
    ·exact List.mem_cons_of_mem _ (List.mem_cons_of_mem _ (List.mem_cons_self ..))
    ·rw[List.mem_singleton.1 hq];exact List.mem_cons_self ..)⟩,hP9.bel⟩,hown,hownf⟩
   clear hP9 hPf hTF hlvF hownF hP hown hownf;by_cases hk0:k=0
   ·subst hk0
    go_wp2_with fail;go_ret2;exact⟨_,_,_,_,_,rfl,hO.b.s0,hO.b.s1,by omega,by omega,hO.b.o.ev⟩
   have hk0b:((k:Int)==0)=false:=by simpa using hk0
   have hkp:0<k:=by omega
   obtain⟨i0,i1,i2⟩:=(⟨hO.b.b0.cell 0,hO.b.b0.cell 1,hO.b.b0.cell 2⟩:W9.cell? ⟨BQ,0,none⟩=some (.int .i64 q0)∧W9.cell? ⟨BQ,1,none⟩=some (.int .i64 q1)∧W9.cell? ⟨BQ,2,none⟩=some (.int .i64 q2));obtain⟨n,hn,hn40⟩:∃n:Nat,q1 % 40=(n:Int)∧n<40:=⟨(q1 % 40).toNat,by omega,by omega⟩;obtain⟨j,hj,hjk⟩:∃j:Nat,q2 % (k:Int)=(j:Int)∧j<k:=⟨(q2 % (k:Int)).toNat,by have:=Int.emod_nonneg q2 (show (k:Int)≠0 by omega);omega,by have:=Int.emod_nonneg q2 (show (k:Int)≠0 by omega);have:=Int.emod_lt_of_pos q2 (show (0:Int)<(k:Int) by omega);omega⟩;obtain⟨r,hr,hr13⟩:∃r:Nat,q0 % 13=(r:Int)∧r<13:=⟨(q0 % 13).toNat,by omega,by omega⟩;have hrN:=Lib.hid (show r=8∨r=9∨r=10∨r=11∨r=12 by omega);clear hcase;have hjI:(j:Int)<(k:Int):=by omega
   obtain⟨eb,eo,ec',heq,hec',-⟩:=hO.b.s0.some_ hkp
   cases heq;have hm1:=a0p q1 40 W9 fq1 (by decide) (by decide);have hm2:=a0p q2 (k:Int) W9 fq2 (by omega) (by omega);have hm3:=a0p q0 13 W9 fq0 (by decide) (by decide);rw[hn] at hm1;rw[hj] at hm2;rw[hr] at hm3;go_upto_block 2 with (first
    |(go_at_call 77;(with_reducible refine hm1.mono ?_);rintro e W'⟨rfl,rfl⟩)
    |(go_at_call 77;(with_reducible refine hm2.mono ?_);rintro e W'⟨rfl,rfl⟩)
    |(go_at_call 77;(with_reducible refine hm3.mono ?_);rintro e W'⟨rfl,rfl⟩)
    |fail)
   clear hm1 hm2 hm3 i0 i1 i2;go_cut [8,11] (fun e f wx=>∃S ne' nf',O7 w S wx e f ne' nf' [(BQ,#[.int .i64 q0,.int .i64 q1,.int .i64 q2],23)]∧ne'≤k+1∧nf'≤nf+1)
   case rest =>
    obtain⟨S',ne',nf',hO',hn1,hn2⟩:=hcut;go_wp2_with fail;go_ret2;exact⟨_,_,_,_,_,rfl,hO'.b.s0,hO'.b.s1,hn1,hn2,hO'.b.o.ev⟩
   case first =>
    have hst:=fun i ct h u hu=>hO.b.store a1u hO.b.s0 hO.oe j i ct h u hu
    have hI0:CT.int.ok S9 W9 (.int .i64 0):=CT.ok_int (by decide);obtain⟨id,ll,rr,lv,m,c0,c1,c2,c3,f0,f2,f3,hlv,hm⟩:=SL.edge hO.b.tw hO.b.s0 hjk;obtain⟨la,lc,rfl,hlc⟩:=hlv.form;have z0:W9.frozen? ⟨eb,eo+j*4,none⟩=false:=(hst 0 .int rfl _ hI0).2;have z2:=(hst 2 .int rfl _ hI0).2;have z3:=(hst 3 .int rfl _ hI0).2;rcases hrN.out with rfl|rfl|rfl|rfl|rfl
    ·skip
     have hev:∀X W',Ev noB S9 W9 X W'→OY noB w X W' _ _:=fun X W' h=>hO.b.evo h (h.below hO.b.o.lows (fun _ h=>h.elim) hO.b.size)
     go_wp2_with (first
      |(go_at_call 137;(with_reducible refine (b3g S9 W9 hO.b.tw id ll rr _ m hlv hm f0 f2 f3).mono ?_);rintro e WT⟨ST,tv,rfl,htv,hevT⟩;obtain⟨ta,tc,rfl,htc⟩:=htv.form;have hT1:=(hev _ _ hevT).add htv;have x0:=(hT1.store a1u hT1.s1 hO.oe j 0 .int rfl (.int .i64 id) (CT.ok_int f0));have x1:=(x0.1.store a1u x0.1.s1 hO.oe j 1 (.sl 26) rfl (.slice ta m tc) (CT.ok_sl x0.1.s0 hm));have x2:=(x1.1.store a1u x1.1.s1 hO.oe j 2 .int rfl (.int .i64 rr) (CT.ok_int f3));have x3:=(x2.1.store a1u x2.1.s1 hO.oe j 3 .int rfl (.int .i64 ll) (CT.ok_int f2));obtain⟨id',l',r',lv',m',b0,b1,b2,b3,-⟩:=SL.edge hT1.tw hT1.s1 hjk;have u0:WT.frozen? ⟨eb,eo+j*4,none⟩=false:=x0.2;have u1:=(hT1.store a1u hT1.s1 hO.oe j 1 (.sl 26) rfl (.slice ta m tc) (CT.ok_sl hT1.s0 hm)).2;have u2:=(hT1.store a1u hT1.s1 hO.oe j 2 .int rfl (.int .i64 rr) (CT.ok_int f3)).2;have u3:=(hT1.store a1u hT1.s1 hO.oe j 3 .int rfl (.int .i64 ll) (CT.ok_int f2)).2)
      |fail)
     go_meet;exact⟨ST,k,nf,⟨x3.1.tailT,hO.oe,hO.of⟩,by omega,by omega⟩
    ·skip
     obtain⟨p,hp,hpm⟩:∃p:Nat,min ((n:Int) % 4) (nf:Int)=(p:Int)∧p≤nf:=⟨min (n % 4) nf,by omega,by omega⟩;have hpI:(p:Int)≤(f1c:Int):=by omega
     have hft:=hO.b.s1.take hpm;go_wp2_with fail;go_meet;exact⟨S9,k,p,⟨((hO.b.add hft).sub (by simp)),hO.oe,hO.of.slice _⟩,by omega,by omega⟩
    ·skip
     have hw1:IntKind.i64.wrap ((n:Int)-1)=(n:Int)-1:=a0u (by omega) (by omega);obtain⟨HS,hHS⟩:∃b,W9.heap.size=b:=⟨_,rfl⟩;go_wp2_with (first
      |(at_builtin;refine hO.b.append_n (by rfl) _ _ 33 (by rfl) underlying33 a1m (by rfl) hO.b.s1 hO.of (by rfl) hHS (c0v (id:=(n:Int)-1) ⟨by omega,by omega⟩) rfl (by omega) ?_;intro e9 S' W' hP' hown')
      |fail)
     go_meet;exact⟨S',k,nf+1,⟨hP'.sub (by simp),hO.oe,hown'⟩,by omega,by omega⟩
    ·skip
     obtain⟨p,hp,hp3⟩:∃p:Nat,Int.tmod (n:Int) 3=(p:Int)∧p<3:=⟨n % 3,by rw[Int.tmod_eq_emod_of_nonneg (by omega)];omega,by omega⟩;have hpe:(n:Int) % 3=(p:Int):=by rw[←hp,Int.tmod_eq_emod_of_nonneg (by omega)]
     have hpI:(p:Int)<3:=by omega
     have hpt:∀W Z,Blk W Z #[.int .i64 0,.int .i64 22,.int .i64 28] 3→∃x,W.cell? ⟨Z,p,none⟩=some (.int .i64 x)∧a0k x:=fun W Z h=>by
      match p,hp3 with
      |0,_=>exact⟨_,h.cell 0,by decide⟩
      |1,_=>exact⟨_,h.cell 1,by decide⟩
      |2,_=>exact⟨_,h.cell 2,by decide⟩
     obtain⟨cx,hcx,fcx⟩:∃cx,IntKind.i64.wrap (10*(n:Int))=cx∧a0k cx:=⟨_,rfl,a0m _⟩;have hoe:=hO.oe;have hof:=hO.of;clear hst z0 z2 z3 c0 c1 c2 c3 hlv;go_upto_region 41 with fail;refine a0g (fun WB hWB=> ?_);have hB:=hO.b.box #[.int .i64 cx,.int .i64 90] 26;obtain⟨B15,hB15⟩:∃b,W9.heap.size=b:=⟨_,rfl⟩;rw[←hWB,hB15] at hB;rw[hB15];clear hWB hB15 hO hT hve hvf;refine Go.wp_region_reln 21 (by kernel_rfl) (by kernel_rfl) (fun _ g W=>OY noB w g W [(B15,#[.int .i64 cx,.int .i64 90],26),(BQ,#[.int .i64 q0,.int .i64 q1,.int .i64 q2],23)] [(206,.slice (some ⟨eb,eo,none⟩) k e1c,k),(140,.slice f10 nf f1c,nf)]) (fun g W g' W'=>Ev noB g W g' W') (FO7 w.heap.size B15 n k p eb eo e1c cx) (fun _ _ _ _ _ _ h g=>h.kept g) S9 hB.drew ?_ ?_
     ·intro i o hi ho c bb g W hc hM hA hD K hK
      match i,hi,ho with
      |0,_,ho =>
       cases ho;have f8:=a0a (v:= .slice (some ⟨eb,eo,none⟩) k e1c) (hA.at_ (k:=8) (by kernel_rfl));go_simp;exact hK (.slice (some ⟨eb,eo,none⟩) k e1c) g W rfl (Ev.refl hM.tw) hM
      |1,_,ho =>
       cases ho;have f12:=a0a (v:= .int .i64 (n:Nat)) (hA.at_ (k:=12) (by kernel_rfl));go_simp;exact hK (.int .i64 (n:Nat)) g W rfl (Ev.refl hM.tw) hM
      |2,_,ho =>
       cases ho;have f221:=a0a (v:= .int .i64 (n:Nat)) (a0f hD 1 221 (by kernel_rfl) rfl rfl);go_simp;exact hK _ g W ⟨_,rfl,(by first|with_reducible (first|exact a0j _|exact a0m _|assumption|exact a0n (by omega))|exact⟨by omega,by omega⟩)⟩ (Ev.refl hM.tw) hM
      |3,_,ho =>
       cases ho;have f15:=a0a (v:= .pointer (some ⟨B15,0,none⟩)) (hA.at_ (k:=15) (by kernel_rfl));have z0:W.cell? ⟨B15,0,none⟩=some (.int .i64 cx):=hM.b0.cell 0;have z1:W.cell? ⟨B15,1,none⟩=some (.int .i64 90):=hM.b0.cell 1;go_simp;exact hK (.agg #[.int .i64 cx,.int .i64 90]) g W rfl (Ev.refl hM.tw) hM
      |4,_,ho =>
       cases ho;have f15:=a0a (v:= .pointer (some ⟨B15,0,none⟩)) (hA.at_ (k:=15) (by kernel_rfl));go_simp;exact hK (.pointer (some ⟨B15,0,none⟩)) g W rfl (Ev.refl hM.tw) hM
      |5,_,ho =>
       cases ho;have f224:=a0a (v:= .pointer (some ⟨B15,0,none⟩)) (a0f hD 4 224 (by kernel_rfl) rfl rfl);have z0:W.cell? ⟨B15,0,none⟩=some (.int .i64 cx):=hM.b0.cell 0;go_simp;exact hK (.int .i64 cx) g W rfl (Ev.refl hM.tw) hM
      |6,_,ho =>
       cases ho;have f225:=a0a (v:= .int .i64 cx) (a0f hD 5 225 (by kernel_rfl) rfl rfl);go_simp;exact hK _ g W ⟨_,rfl,(by first|with_reducible (first|exact a0j _|exact a0m _|assumption|exact a0n (by omega))|exact⟨by omega,by omega⟩)⟩ (Ev.refl hM.tw) hM
      |7,_,ho =>
       cases ho;have f226:=a0f hD 6 226 (by kernel_rfl) rfl rfl;obtain⟨x226,e226,g226⟩:=f226;have f226:=a0a e226;go_simp;exact hK _ g W ⟨x226,rfl,g226⟩ (Ev.refl hM.tw) hM
      |8,_,ho =>
       cases ho;have f15:=a0a (v:= .pointer (some ⟨B15,0,none⟩)) (hA.at_ (k:=15) (by kernel_rfl));go_simp;exact hK (.pointer (some ⟨B15,0,none⟩)) g W rfl (Ev.refl hM.tw) hM
      |9,_,ho =>
       cases ho;have f228:=a0a (v:= .pointer (some ⟨B15,0,none⟩)) (a0f hD 8 228 (by kernel_rfl) rfl rfl);have z0:W.cell? ⟨B15,0,none⟩=some (.int .i64 cx):=hM.b0.cell 0;go_simp;exact hK (.int .i64 cx) g W rfl (Ev.refl hM.tw) hM
      |10,_,ho =>
       cases ho;have f229:=a0a (v:= .int .i64 cx) (a0f hD 9 229 (by kernel_rfl) rfl rfl);go_simp;exact hK (.agg #[.int .i64 cx,.int .i64 95]) g W rfl (Ev.refl hM.tw) hM
      |11,_,ho =>
       cases ho;have f15:=a0a (v:= .pointer (some ⟨B15,0,none⟩)) (hA.at_ (k:=15) (by kernel_rfl));have z0:W.cell? ⟨B15,0,none⟩=some (.int .i64 cx):=hM.b0.cell 0;have z1:W.cell? ⟨B15,1,none⟩=some (.int .i64 90):=hM.b0.cell 1;go_simp;exact hK (.agg #[.int .i64 cx,.int .i64 90]) g W rfl (Ev.refl hM.tw) hM
      |12,_,ho =>
       cases ho;have f223:=a0a (v:= .agg #[.int .i64 cx,.int .i64 90]) (a0f hD 3 223 (by kernel_rfl) rfl rfl);have f227:=a0f hD 7 227 (by kernel_rfl) rfl rfl;have f230:=a0a (v:= .agg #[.int .i64 cx,.int .i64 95]) (a0f hD 10 230 (by kernel_rfl) rfl rfl);have f231:=a0a (v:= .agg #[.int .i64 cx,.int .i64 90]) (a0f hD 11 231 (by kernel_rfl) rfl rfl);obtain⟨x227,e227,g227⟩:=f227;have f227:=a0a e227;have hTB:TB g W 26 #[.int .i64 cx,.int .i64 90,.int .i64 x227,.int .i64 90,.int .i64 cx,.int .i64 95,.int .i64 cx,.int .i64 90]:=c0u (fun u hu=>(List.forall_mem_cons.2 ⟨⟨_,rfl,fcx⟩,List.forall_mem_cons.2 ⟨⟨_,rfl,(by decide)⟩,List.forall_mem_cons.2 ⟨⟨_,rfl,g227⟩,List.forall_mem_cons.2 ⟨⟨_,rfl,(by decide)⟩,List.forall_mem_cons.2 ⟨⟨_,rfl,fcx⟩,List.forall_mem_cons.2 ⟨⟨_,rfl,(by decide)⟩,List.forall_mem_cons.2 ⟨⟨_,rfl,fcx⟩,List.forall_mem_cons.2 ⟨⟨_,rfl,(by decide)⟩,fun _ h=>by simp at h⟩⟩⟩⟩⟩⟩⟩⟩:∀u∈[Value.int .i64 cx,.int .i64 90,.int .i64 x227,.int .i64 90,.int .i64 cx,.int .i64 95,.int .i64 cx,.int .i64 90],∃x,u= .int .i64 x∧a0k x) u hu);have hE:=Ev.alloc (X:=noB) hM.tw hTB;go_simp;exact hK (.slice (some ⟨W.heap.size,0,none⟩) 4 4) _ _ (SL.blk (.inr rfl) (Blk.new _ _ _) (by show 4*2≤8;omega)) hE (hM.evo hE ((zR _ _).alloc hM.size _))
      |13,_,ho =>
       cases ho;go_simp;have hb:Below W.heap.size W (W.alloc (.cells #[.int .i64 0,.int .i64 22,.int .i64 28] 3)):=(zR _ _).alloc (yR _) _;exact hK (.slice (some ⟨W.heap.size,0,none⟩) 3 3) g _ ⟨_,rfl,Blk.new _ _ _,fun hs=>Nat.lt_irrefl _ (hM.tw.lt hs)⟩ (Ev.of_below hM.tw hb) (hM.up hb)
      |14,_,ho =>
       cases ho;have f12:=a0a (v:= .int .i64 (n:Nat)) (hA.at_ (k:=12) (by kernel_rfl));go_simp;exact hK (.int .i64 (n:Nat)) g W rfl (Ev.refl hM.tw) hM
      |15,_,ho =>
       cases ho;have f234:=a0a (v:= .int .i64 (n:Nat)) (a0f hD 14 234 (by kernel_rfl) rfl rfl);go_simp;exact hK (.int .i64 (p:Nat)) g W rfl (Ev.refl hM.tw) hM
      |16,_,ho =>
       cases ho;have f233:=a0f hD 13 233 (by kernel_rfl) rfl rfl;have f235:=a0a (v:= .int .i64 (p:Nat)) (a0f hD 15 235 (by kernel_rfl) rfl rfl);obtain⟨Z,e233,b233,n233⟩:=f233;have f233:=a0a e233;go_simp;exact hK _ g W ⟨Z,rfl,b233,n233⟩ (Ev.refl hM.tw) hM
      |17,_,ho =>
       cases ho;have f236:=a0f hD 16 236 (by kernel_rfl) rfl rfl;obtain⟨Z,e236,b236,n236⟩:=f236;have f236:=a0a e236;obtain⟨xt,ct,ft⟩:=hpt W Z b236;go_simp;exact hK _ g W ⟨_,rfl,ft⟩ (Ev.refl hM.tw) hM
      |18,_,ho =>
       cases ho;have f222:=a0f hD 2 222 (by kernel_rfl) rfl rfl;obtain⟨x222,e222,g222⟩:=f222;have f222:=a0a e222;have f232:=a0f hD 12 232 (by kernel_rfl) rfl rfl;have f237:=a0f hD 17 237 (by kernel_rfl) rfl rfl;obtain⟨x237,e237,g237⟩:=f237;have f237:=a0a e237;obtain⟨sv,e232⟩:∃v,bb.eval (.tmp 232)=v:=⟨_,rfl⟩;rw[e232] at f232;have h232:SL g W 26 sv 4:=f232;obtain⟨a1,c1,rfl,-⟩:=h232.form;have f232:=a0a e232;go_simp;exact hK _ g W ⟨_,_,_,rfl,g222,g237,h232⟩ (Ev.refl hM.tw) hM
      |19,_,ho =>
       cases ho;have f238:=a0f hD 18 238 (by kernel_rfl) rfl rfl;obtain⟨a,c,sv,e238,ha,hc9,hsv⟩:=f238;obtain⟨a1,c1,rfl,-⟩:=hsv.form;have f238:=a0a e238;have hE:=Ev.alloc (X:=noB) hM.tw (a6z (l:=21) ha (by decide) hc9 hsv (by omega));go_simp;exact hK (.slice (some ⟨W.heap.size,0,none⟩) 1 1) _ _ (SL.blk (.inr rfl) (Blk.new _ _ _) (by show 1*4≤4;omega)) hE (hM.evo hE ((zR _ _).alloc hM.size _))
      |20,_,ho =>
       cases ho;have f220:=a0a (v:= .slice (some ⟨eb,eo,none⟩) k e1c) (a0f hD 0 220 (by kernel_rfl) rfl rfl);have f239:=a0f hD 19 239 (by kernel_rfl) rfl rfl;exact hM.append_e _ _ 32 rfl underlying32 a1u (b3k f220) hM.s0 hoe rfl f239 (by omega) (fun v' S' w' h1 h2 h3=>hK v' S' w' ⟨h1.s0,h2⟩ h3 h1.tailT)
      |i+21,hi,_=>exact absurd hi (by omega)
     ·intro bb g W hM hA hall
      obtain⟨h20,h20o⟩:=(show SL g W 206 (bb.eval (.tmp 240)) (k+1)∧Own w.heap.size (bb.eval (.tmp 240)) from hall 20 (by omega) _ _ rfl rfl);obtain⟨va,hva⟩:∃v,bb.eval (.tmp 240)=v:=⟨_,rfl⟩;rw[hva] at h20 h20o;have hfr:=hA.frame [T,T,T,T,T,T,T,T,T,T,T,T,T,T,T,T,T,T,T,T,T,T,T,T,T,T,T,T,T,T,T,T,T,T,T,T,T,T,T,T,T,T,T,T,T,T,T,T,T,T,T,T,T,T,T,T,T,T,T,T,T,T,T,T,T,T,T,T,T,T,T,T,T,T,T,T,T,T,T,T,T,T,T,T,T,T,T,T,T,T,T,T,T,T,T,T,T,T,T,T,T,T,T,T,T,T,T,T,T,T,T,T,T,T,T,T,T,T,T,T,T,T,T,T,T,T,T,T,T,T,T,T,T,T,T,T,T,T,T,T,T,T,T,T,T,T,T,T,T,T,T,T,T,T,T,T,T,T,T,T,T,T,T,T,T,T,T,T,T,T,T,T,T,T,T,T,T,T,T,T,T,T,T,T,T,T,T,T,T,T,T,T,T,T,T,T,T,T,T,T,T,T,T,T,T,T,T,T,T,T,T,T,T,T,T,T,T,T,T,T,F,F,F,F,F,F,F,F,F,F,F,F,F,F,F,F,F,F,F,F,F,T,T,T,T,T,T,T,T,T,T,T,T,T,T,T,T,T,T,T,T,T,T,T,T,T,T,T,T,T,T,T,T,T,T,T,T,T,T,T,T,T,T] _ rfl (by kernel_rfl);clear hall hA;obtain⟨f,hf⟩:∃f:Nat→Value,(fun k=>bb.tmps.getD k undef)=f:=⟨_,rfl⟩;have g240:f 240=va:=by rw[←hf,←hva];rfl
      rw[hf] at hfr;clear hf hva;subst hfr;simp only[a2k,g240,Nat.reduceAdd];clear g240;simp only[List.drop_succ_cons,List.drop_zero];go_wp2_with fail;go_meet;exact⟨g,k+1,nf,⟨((hM.tail).add h20).sub (by simp),h20o,hof⟩,by omega,by omega⟩
    ·skip
     have hoe:=hO.oe;have hof:=hO.of;have hb:=hO.b;clear hst z0 z2 z3 c0 c1 c2 c3 hlv hO hT hve hvf;go_wp2_with fail;go_loopw [16] (fun kk wr=>∃i:Nat,i≤k∧kk= .int .i64 (i:Nat)∧OY noB w S9 wr [(BQ,#[.int .i64 q0,.int .i64 q1,.int .i64 q2],23)] [(206,.slice (some ⟨eb,eo,none⟩) k e1c,k),(140,.slice f10 nf f1c,nf)]) (fun kk _=>k-(intOf kk).toNat)
     case atStart=>exact⟨0,Nat.zero_le _,rfl,hb⟩
     case round =>
      clear hb;obtain⟨i,hi,rfl,hb⟩:=hrel;by_cases hlt:i<k
      ·have hltI:(i:Int)<(k:Int):=by omega
       have hwi:IntKind.i64.wrap ((i:Int)+1)=((i+1:Nat):Int):=by rw[a0u (by omega) (by omega)];omega
       obtain⟨id',l',r',lv',m',c0,c1,c2,c3,-,-,-,hlv,hm'⟩:=SL.edge hb.tw hb.s0 hlt;obtain⟨la',lc',rfl,hlc'⟩:=hlv.form;have hq:=hb.add hlv;clear c0 c2 c3 hb hlv;go_wp2_with fail;go_loopw [17] (fun jj WR9=>∃pj:Nat,pj≤m'∧jj= .int .i64 (pj:Nat)∧WR9.cell? ⟨eb,eo+i*4+1,none⟩=some (.slice la' m' lc')∧OY noB w S9 WR9 [(BQ,#[.int .i64 q0,.int .i64 q1,.int .i64 q2],23)] [(26,.slice la' m' lc',m'),(206,.slice (some ⟨eb,eo,none⟩) k e1c,k),(140,.slice f10 nf f1c,nf)]) (fun jj _=>m'-(intOf jj).toNat)
       case atStart=>exact⟨0,Nat.zero_le _,rfl,c1,hq⟩
       case round =>
        clear hq c1;obtain⟨pj,hp,rfl,c1,hq⟩:=hrel;by_cases hpl:pj<m'
        ·have hpI:(pj:Int)<(m':Int):=by omega
         have hwp:IntKind.i64.wrap ((pj:Int)+1)=((pj+1:Nat):Int):=by rw[a0u (by omega) (by omega)];omega
         obtain⟨pb,po,pc,heq,hpc,-⟩:=hq.s0.some_ (by omega)
         cases heq;obtain⟨x,y,d0,d1,fx,fy⟩:=SL.point hq.tw hq.s0 hpl;have hpo:=fun v fv=>hq.store a1k hq.s0 (a0y hq.s0 hq.o.lows) pj 1 .int rfl (.int .i64 v) (CT.ok_int fv)
         have y1:wr.frozen? ⟨pb,po+pj*2+1,none⟩=false:=(hpo 0 (by decide)).2;obtain⟨ce,hce⟩:=hq.s1.blk_;obtain⟨cp,hcp⟩:=hq.s0.blk_;have hne:eb≠pb:=fun e=>by
          subst e;unfold Blk at hce hcp;rw[hce] at hcp;simp only[Option.some.injEq,Obj.cells.injEq] at hcp;exact absurd hcp.2.1 (by decide)
         have hkeep:∀v,(wr.setCell ⟨pb,po+pj*2+1,none⟩ v).cell? ⟨eb,eo+i*4+1,none⟩=some (.slice (some ⟨pb,po,none⟩) m' lc'):=fun v=>by
          rw[(hce.other hne _ v).cell,←hce.cell];exact c1
         clear hce hcp hne;obtain⟨z,hz⟩:∃z,IntKind.i64.wrap (1+IntKind.i64.wrap ((n:Int) % 2*39))=z:=⟨_,rfl⟩;go_upto_region 49 with fail;first|with_reducible refine a0c 20 (by kernel_rfl) (by kernel_rfl) ?_|with_reducible refine a0d 20 (by kernel_rfl) (by kernel_rfl) ?_
         simp only[List.take_succ_cons,List.take_zero,List.drop_succ_cons,List.drop_zero];repeat (first|go_big_quiet_step (fail)|quiet_step (fail))
         refine wpQuiet_nil ?_;intro _ hw_;obtain⟨p,hw_⟩:=hw_;subst hw_;go_wp2_with fail;refine⟨⟨pj+1,hpl,rfl,(a2z (Go.below_growBy _ _) (hkeep _)),((hpo _ (a0j _)).1.up (Go.below_growBy _ _))⟩,?_⟩;simp only[intOf,Int.toNat_natCast];omega
        ·have hge:((pj:Int)<(m':Int))=False:=by simp;omega
         go_wp2_with fail;refine⟨⟨i+1,hlt,rfl,hq.tailT⟩,?_⟩;simp only[intOf,Int.toNat_natCast];omega
      ·have hge:((i:Int)<(k:Int))=False:=by simp;omega
       go_wp2_with fail;go_meet;exact⟨S9,k,nf,⟨hb,hoe,hof⟩,by omega,by omega⟩
end
end Go.Proofs.YtfocdbjceedagaaGreatDoor
