/-
  Parts.
-/
import Derived.Test.YtfocdbjceedagaaGreatDoorXbm
set_option linter.unusedVariables false
set_option linter.unusedSimpArgs false
set_option maxHeartbeats 60000000
set_option maxRecDepth 100000
namespace Go.Proofs.YtfocdbjceedagaaGreatDoor
open Tryz
section
open Go Go.RowKit Go.Shelf
attribute [local go_sem] Oper.semAt_some
attribute [local go_sem ↓] Go.wp_at_zero Go.wp_at_succ
theorem a5h (U:BS)(w:World)(hT:TW U w)(ev fv:Value)(ne nf:Nat)(hve:SL U w 206 ev ne)(hvf:SL U w 140 fv nf)(hne:ne≤1000)(hnf:nf≤1000)(q0 q1 q2:Int)(fq0:a0k q0)(fq1:a0k q1)(fq2:a0k q2)(hcase:q0 % 13=0∨q0 % 13=1∨q0 % 13=2∨q0 % 13=3) :
 Calls prog 78 #[ev,fv,.agg #[.int .i64 q0,.int .i64 q1,.int .i64 q2]] w fun e w'=>∃S' ev' fv' ne' nf',e= .returned (.tuple #[ev',fv'])∧SL S' w' 206 ev' ne'∧SL S' w' 140 fv' nf'∧ne'≤ne+1∧nf'≤nf+1∧Ev noB noB w S' w':=by
 obtain⟨ea,ec,rfl,hec⟩:=hve.form;obtain⟨fa,fc,rfl,hfc⟩:=hvf.form;have h0:=(OY.init (TW.none w)).box #[.int .i64 q0,.int .i64 q1,.int .i64 q2] 23;go_enter func78,ntmps78;go_upto_region 2 with fail;refine a0g (fun W1 hW1=> ?_);obtain⟨BQ,hBQ⟩:∃b,w.heap.size=b:=⟨_,rfl⟩;rw[←hW1,hBQ] at h0;rw[hBQ];clear hW1 hBQ;go_wp2_with fail;go_loopw [8,9] (fun e1 kk wr=>∃(k:Nat) (S:BS),k≤ne∧kk= .int .i64 (k:Nat)∧OY noB w S wr [(BQ,#[.int .i64 q0,.int .i64 q1,.int .i64 q2],23)] [(206,e1,k)]∧Own w.heap.size e1) (fun _ kk _=>ne-(intOf kk).toNat)
 case atStart=>exact⟨0,_,Nat.zero_le _,rfl,h0.add (SL.nil _ _ _),a7b _⟩
 case round =>
  clear h0;obtain⟨k,S,hk,rfl,hP,hown⟩:=hrel;have hTk:=hP.old hT;have hvk:=hP.oldS hT hve;by_cases hlt:k<ne
  ·as_aux_lemma =>
    have hltI:(k:Int)<(ne:Int):=by omega
    obtain⟨eb,eo,ec',heq,hec',-⟩:=hvk.some_ (by omega)
    cases heq;obtain⟨id,ll,rr,lv,m,c0,c1,c2,c3,f0,f2,f3,hlv,hm⟩:=SL.edge hTk hvk hlt;obtain⟨la,lc,rfl,hlc⟩:=hlv.form;have hwk:IntKind.i64.wrap ((k:Int)+1)=((k+1:Nat):Int):=by rw[a0u (by omega) (by omega)];omega
    obtain⟨e10,e1c,rfl,he1c⟩:=hP.s0.form;go_upto_region 6 with fail;refine a0g (fun WE hWE=> ?_);have hP2:=(hP.box #[.int .i64 id,.slice la m lc,.int .i64 ll,.int .i64 rr] 206);obtain⟨BE,hBE⟩:∃b,wr.heap.size=b:=⟨_,rfl⟩;have hUE:Below wr.heap.size wr WE:=by rw[hWE];exact (zR _ _).alloc (yR _) _
    rw[←hWE,hBE] at hP2;rw[hBE];have hTE:=a6g hTk hUE (fun b hb=>hTk.lt hb);have hlvE:=a2x hUE (fun b hb=>hTk.lt hb) hlv;clear hP hWE hBE c0 c1 c2 c3 hTk hvk hlv hUE;have k1:WE.cell? ⟨BE,1,none⟩=some (.slice la m lc):=hP2.b0.cell 1;refine a0g (fun WF hWF=> ?_);subst hWF;have hP3:=hP2.empty 26;have hTF:=hP3.old hT;have hlvF:=a2x ((zR _ WF).alloc (yR _) (.cells #[] 26)) (fun b hb=>hTE.lt hb) hlvE;have hownF:Own w.heap.size (.slice (some ⟨WF.heap.size,0,none⟩) 0 0):=a9o hP2.size _;go_upto_region 7 with (first
     |(at_builtin;refine hP3.append_fl hTF (by rfl) _ _ 147 (by rfl) underlying147 a1k a6h (by rfl) hP3.s0 hownF (by rfl) hlvF (by omega) ?_;intro v9 S9 WG hP4 _ _;obtain⟨a3,c3,rfl,hc3⟩:=hP4.s0.form;have q1:=hP4.b0.cell 1;have y1:=hP4.b0.frozen 1)
     |fail)
    refine a0g (fun WM hWM=> ?_);simp only[Nat.zero_add] at hP4 hc3;have hP5:OY _ _ _ _ ((BE,#[.int .i64 id,.slice a3 m c3,.int .i64 ll,.int .i64 rr],_)::_) _:=hP4.put hWM rfl;clear hP2 hP3 hP4 hWM q1 y1 hTF hlvF hownF hTE hlvE k1;obtain⟨q0,q1,q2,q3⟩:=ed4 hP5.b0;obtain⟨HS,hHS⟩:∃b,WM.heap.size=b:=⟨_,rfl⟩;go_wp2_with (first
     |(at_builtin;refine hP5.append_n (by rfl) _ _ 32 (by rfl) underlying32 a1u (by rfl) hP5.s2 hown (by rfl) hHS (a6z f0 f2 f3 hP5.s0 hm) rfl (by omega) ?_;intro e9 S9 W9 hP9 hown9)
     |fail)
    refine⟨⟨k+1,S9,hlt,rfl,⟨⟨hP9.tail.o.ev,hP9.tail.o.bx,hP9.tail.o.ne,fun q hq=>hP9.o.sl q (by rw[List.mem_singleton.1 hq];exact List.mem_cons_self ..)⟩,hP9.bel⟩,hown9⟩,?_⟩;simp only[intOf,Int.toNat_natCast];omega
  ·have hge:((k:Int)<(ne:Int))=False:=by simp;omega
   obtain rfl:k=ne:=by omega
   clear hTk hvk;obtain⟨e10,e1c,rfl,he1c⟩:=hP.s0.form;have hPf:=hP.empty 140;have hTF:=hPf.old hT;have hlvF:=hPf.oldS hT hvf;have hownF:Own w.heap.size (.slice (some ⟨wr.heap.size,0,none⟩) 0 0):=a9o hP.size _;go_upto_region 9 with (first
    |(at_builtin;refine hPf.append_fl hTF (by rfl) _ _ 33 (by rfl) underlying33 a1m a8e (by rfl) hPf.s0 hownF (by rfl) hlvF (by omega) ?_;intro v9 S9 W9 hP9 hownf _;obtain⟨f10,f1c,rfl,hf1c⟩:=hP9.s0.form)
    |fail)
   simp only[Nat.zero_add] at hP9 hf1c hownf;have hO:O7 w S9 W9 (.slice e10 k e1c) (.slice f10 nf f1c) k nf [(BQ,#[.int .i64 q0,.int .i64 q1,.int .i64 q2],23)]:=⟨⟨⟨hP9.o.ev,hP9.o.bx,hP9.o.ne,fun q hq=>hP9.o.sl q (by
    rcases List.mem_cons.1 hq with rfl|hq
    ·exact List.mem_cons_of_mem _ (List.mem_cons_of_mem _ (List.mem_cons_self ..))
    ·rw[List.mem_singleton.1 hq];exact List.mem_cons_self ..)⟩,hP9.bel⟩,hown,hownf⟩
   clear hP9 hPf hTF hlvF hownF hP hown hownf;by_cases hk0:k=0
   ·subst hk0
    go_wp2_with fail;go_ret2;exact⟨_,_,_,_,_,rfl,hO.b.s0,hO.b.s1,by omega,by omega,hO.b.o.ev⟩
   have hk0b:((k:Int)==0)=false:=by simpa using hk0
   have hkp:0<k:=by omega
   obtain⟨i0,i1,i2⟩:=(⟨hO.b.b0.cell 0,hO.b.b0.cell 1,hO.b.b0.cell 2⟩:W9.cell? ⟨BQ,0,none⟩=some (.int .i64 q0)∧W9.cell? ⟨BQ,1,none⟩=some (.int .i64 q1)∧W9.cell? ⟨BQ,2,none⟩=some (.int .i64 q2));obtain⟨n,hn,hn40⟩:∃n:Nat,q1 % 40=(n:Int)∧n<40:=⟨(q1 % 40).toNat,by omega,by omega⟩;obtain⟨j,hj,hjk⟩:∃j:Nat,q2 % (k:Int)=(j:Int)∧j<k:=⟨(q2 % (k:Int)).toNat,by have:=Int.emod_nonneg q2 (show (k:Int)≠0 by omega);omega,by have:=Int.emod_nonneg q2 (show (k:Int)≠0 by omega);have:=Int.emod_lt_of_pos q2 (show (0:Int)<(k:Int) by omega);omega⟩;obtain⟨r,hr,hr13⟩:∃r:Nat,q0 % 13=(r:Int)∧r<13:=⟨(q0 % 13).toNat,by omega,by omega⟩;have hrN:=Lib.hid (show r=0∨r=1∨r=2∨r=3 by omega);clear hcase;have hjI:(j:Int)<(k:Int):=by omega
   obtain⟨eb,eo,ec',heq,hec',-⟩:=hO.b.s0.some_ hkp
   cases heq;have hm1:=a0p q1 40 W9 fq1 (by decide) (by decide);have hm2:=a0p q2 (k:Int) W9 fq2 (by omega) (by omega);have hm3:=a0p q0 13 W9 fq0 (by decide) (by decide);rw[hn] at hm1;rw[hj] at hm2;rw[hr] at hm3;go_upto_block 2 with (first
    |(go_at_call 77;(with_reducible refine hm1.mono ?_);rintro e W'⟨rfl,rfl⟩)
    |(go_at_call 77;(with_reducible refine hm2.mono ?_);rintro e W'⟨rfl,rfl⟩)
    |(go_at_call 77;(with_reducible refine hm3.mono ?_);rintro e W'⟨rfl,rfl⟩)
    |fail)
   clear hm1 hm2 hm3 i0 i1 i2;go_cut [8,11] (fun e f wx=>∃S ne' nf',O7 w S wx e f ne' nf' [(BQ,#[.int .i64 q0,.int .i64 q1,.int .i64 q2],23)]∧ne'≤k+1∧nf'≤nf+1)
   case rest =>
    obtain⟨S',ne',nf',hO',hn1,hn2⟩:=hcut;go_wp2_with fail;go_ret2;exact⟨_,_,_,_,_,rfl,hO'.b.s0,hO'.b.s1,hn1,hn2,hO'.b.o.ev⟩
   case first =>
    have hst:=fun i ct h u hu=>hO.b.store a1u hO.b.s0 hO.oe j i ct h u hu
    have hI0:CT.int.ok S9 W9 (.int .i64 0):=CT.ok_int (by decide);obtain⟨id,ll,rr,lv,m,c0,c1,c2,c3,f0,f2,f3,hlv,hm⟩:=SL.edge hO.b.tw hO.b.s0 hjk;obtain⟨la,lc,rfl,hlc⟩:=hlv.form;have z0:W9.frozen? ⟨eb,eo+j*4,none⟩=false:=(hst 0 .int rfl _ hI0).2;have z2:=(hst 2 .int rfl _ hI0).2;have z3:=(hst 3 .int rfl _ hI0).2;rcases hrN.out with rfl|rfl|rfl|rfl
    ·skip
     have hw1:IntKind.i64.wrap ((n:Int)-1)=(n:Int)-1:=a0u (by omega) (by omega);have hX:=(hst 0 .int rfl (.int .i64 ((n:Int)-1)) (CT.ok_int ⟨by omega,by omega⟩)).1;go_wp2_with fail;go_meet;exact⟨S9,k,nf,⟨hX,hO.oe,hO.of⟩,by omega,by omega⟩
    ·skip
     have hX:=(hst 2 .int rfl (.int .i64 (n:Int)) (CT.ok_int ⟨by omega,by omega⟩)).1;go_wp2_with fail;go_meet;exact⟨S9,k,nf,⟨hX,hO.oe,hO.of⟩,by omega,by omega⟩
    ·skip
     obtain⟨p,hp,hp4⟩:∃p:Nat,Int.tmod (n:Int) 4=(p:Int)∧p<4:=⟨n % 4,by rw[Int.tmod_eq_emod_of_nonneg (by omega)];omega,by omega⟩;have hpI:(p:Int)<4:=by omega
     have kT:=Blk.new W9 #[.int .i64 0,.int .i64 21,.int .i64 22,.int .i64 28] 3;obtain⟨v,cv,fv⟩:∃v,(W9.alloc (.cells #[.int .i64 0,.int .i64 21,.int .i64 22,.int .i64 28] 3)).cell? ⟨W9.heap.size,p,none⟩=some (.int .i64 v)∧a0k v:=by
      match p,hp4 with
      |0,_=>exact⟨_,kT.cell 0,by decide⟩
      |1,_=>exact⟨_,kT.cell 1,by decide⟩
      |2,_=>exact⟨_,kT.cell 2,by decide⟩
      |3,_=>exact⟨_,kT.cell 3,by decide⟩
     have hY:=(hst 3 .int rfl (.int .i64 v) (CT.ok_int fv)).1;have hX:=hY.up ((zR _ _).alloc (yR _) (.cells #[.int .i64 0,.int .i64 21,.int .i64 22,.int .i64 28] 3));clear kT;go_wp2_with fail;go_meet;exact⟨S9,k,nf,⟨hX,hO.oe,hO.of⟩,by omega,by omega⟩
    ·skip
     have hX:=hst 2 .int rfl (.int .i64 rr) (CT.ok_int f3);have hY:=(hX.1.store a1u hX.1.s0 hO.oe j 3 .int rfl (.int .i64 ll) (CT.ok_int f2));clear hst hT hve hvf;go_upto_region 22 with fail;clear hk hlt hk0 hk0b hjI hjk;go_region;go_wp2_with fail;go_meet;exact⟨S9,k,nf,⟨hY.1.drew,hO.oe,hO.of⟩,by omega,by omega⟩
end
end Go.Proofs.YtfocdbjceedagaaGreatDoor
