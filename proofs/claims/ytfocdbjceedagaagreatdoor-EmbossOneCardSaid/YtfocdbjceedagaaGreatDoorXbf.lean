/-
  Parts.
-/
import Derived.Test.YtfocdbjceedagaaGreatDoorXbe
set_option linter.unusedVariables false
set_option linter.unusedSimpArgs false
set_option maxHeartbeats 8000000
set_option maxRecDepth 100000
namespace Go.Proofs.YtfocdbjceedagaaGreatDoor
open Tryz
section
open Go.RowKit Go.Shelf
attribute [local go_sem] Oper.semAt_some
attribute [local go_sem ↓] Go.wp_at_zero Go.wp_at_succ
theorem run_build_rise (x0 x1 x2 x3 x4 x5 x6:Int)(W:World):(Instr.build 251 #[(0,.agg #[.int .i64 x0,.int .i64 x1,.int .i64 x2]),(1,.agg #[.int .i64 x3,.int .i64 x4,.int .i64 x5]),(2,.int .i64 x6)]).run prog W= .ok (.agg (a3d x0 x1 x2 x3 x4 x5 x6)) W:=by kernel_rfl
attribute [-go_sem] Instr.build
attribute [local go_sem] run_build_rise
theorem PQ.best2 {w W W':World}{B3 B9:Nat}{px py:Int}(h:PQ w B3 px py B9 W){y0 y1 y2 y3 y4 y5 y6:Int}(k:Blk W' B9 (a3d y0 y1 y2 y3 y4 y5 y6) 251)(hg:W.grownBy W' (some B9))(f1:a0k y1)(f2:a0k y2):PQ w B3 px py B9 W' :=
 ⟨⟨h.pp.bel.trans (Below.of_grown hg h.pp.bel.size (fun r e=>by cases e;exact h.l9)),h.pp.p.kept hg (fun e=>h.d (Option.some.inj e).symm)⟩,⟨y0,y1,y2,y3,y4,y5,y6,k,f1,f2⟩,h.l9,h.d⟩
def d3h (e:Ending):Prop:=∃(x:Int)(b:Bool),e= .returned (.tuple #[.int .i64 x,.bool b])
def FAa (wr:World)(P Q b off n cap k:Nat)(ax ay ad bx by_ bd r:Int)(i:Nat)(v:Value)(w:World):Prop :=
 match i with
 |0=>v= .agg #[.int .i64 ax,.int .i64 ay,.int .i64 ad]
 |1=>v= .agg #[.int .i64 bx,.int .i64 by_,.int .i64 bd]
 |2=>v= .slice (some ⟨b,off,none⟩) n cap
 |3=>v= .int .i64 (k:Nat)
 |4=>v= .pointer (some ⟨b,off+k*4,none⟩)
 |5=>v= .pointer (some ⟨b,off+k*4+3,none⟩)
 |6=>v= .int .i64 r
 |7=>v= .agg (a3d ax ay ad bx by_ bd r)
 |8=>∃B,v= .pointer (some ⟨B,0,none⟩)∧wr.heap.size≤B∧Blk w B (a3d 0 0 0 0 0 0 0) 251
 |_=>False
theorem FAa.kept {wr:World}{P Q b off n cap k:Nat}{ax ay ad bx by_ bd r:Int}{i:Nat}{v:Value}{w w':World}(h:FAa wr P Q b off n cap k ax ay ad bx by_ bd r i v w)(hg:Below w.heap.size w w'):FAa wr P Q b off n cap k ax ay ad bx by_ bd r i v w':=by
 unfold FAa at *;split at h
 all_goals first|exact h|(obtain⟨B,h1,h2,h3⟩:=h;exact⟨B,h1,h2,h3.below hg h3.lt⟩)
def FAb (P Q b off n cap k:Nat)(ax ay ad bx by_ bd l:Int)(i:Nat)(v:Value)(w:World):Prop :=
 match i with
 |0=>v= .agg #[.int .i64 bx,.int .i64 by_,.int .i64 bd]
 |1=>v= .agg #[.int .i64 ax,.int .i64 ay,.int .i64 ad]
 |2=>v= .slice (some ⟨b,off,none⟩) n cap
 |3=>v= .int .i64 (k:Nat)
 |4=>v= .pointer (some ⟨b,off+k*4,none⟩)
 |5=>v= .pointer (some ⟨b,off+k*4+2,none⟩)
 |6=>v= .int .i64 l
 |7=>v= .agg (a3d bx by_ bd ax ay ad l)
 |_=>False
theorem FAb.kept {P Q b off n cap k:Nat}{ax ay ad bx by_ bd l:Int}{i:Nat}{v:Value}{w w':World}(h:FAb P Q b off n cap k ax ay ad bx by_ bd l i v w)(hg:Below w.heap.size w w'):FAb P Q b off n cap k ax ay ad bx by_ bd l i v w':=by
 unfold FAb at *;split at h
 all_goals first|exact h
theorem b7g (S:BS)(w:World)(hT:TW S w)(tv:Value)(n:Nat)(hst:SL S w 249 tv n)(hn:n≤100)(px py:Int)(fpx:a0k px)(fpy:a0k py) :
 Calls prog 165 #[tv,.agg #[.int .i64 px,.int .i64 py]] w fun e w'=>d3h e∧Below w.heap.size w w':=by
 obtain⟨ta,cap,rfl,htc⟩:=hst.form;have hnI:(n:Int)≤100:=by omega
 go_enter func165,ntmps165;go_upto_if 19 with (first
  |(go_at_call 183;refine (a6f _ _ _).mono ?_;rintro e W1⟨rfl,hb1⟩)
  |(go_at_call 182;refine (a9n _ _ _ _).mono ?_;rintro e W2⟨⟨bo,rfl⟩,hb2⟩)
  |fail)
 have hp0:PP w w.heap.size px py (w.alloc (.cells #[.int .i64 px,.int .i64 py] 26)):=⟨zC,Blk.new _ _ _⟩;have hp2:PP w w.heap.size px py W2:=(hp0.up hb1).up hb2;have hB3l:w.heap.size≤w.heap.size:=yR _;obtain⟨B3,hB3⟩:∃b,w.heap.size=b:=⟨_,rfl⟩;have hp:PP w B3 px py W2:=hB3▸hp2;have hl3:w.heap.size≤B3:=by omega
 rw[hB3];clear hp0 hp2 hb1 hb2 hB3 hB3l
 cases bo
 ·go_wp2_with fail
  go_ret2;exact⟨⟨_,_,rfl⟩,hp.bel⟩
 ·simp only[Bool.not_true]
  go_wp2_with fail;go_loopw [6] (fun kk wr=>∃k:Nat,k≤n∧kk= .int .i64 (k:Nat)∧PP w B3 px py wr) (fun kk _=>n-(intOf kk).toNat)
  case atStart=>exact⟨0,Nat.zero_le _,rfl,hp⟩
  case round =>
   clear hp;obtain⟨k,hk,rfl,hp⟩:=hrel;by_cases hlt:k<n
   ·have hltI:(k:Int)<(n:Int):=by omega
    as_aux_lemma =>
     obtain⟨b,off,cap',hab,-,-⟩:=hst.some_ (by omega);simp only[Value.slice.injEq,true_and] at hab;obtain⟨rfl,rfl⟩:=hab;obtain⟨id,l,r,lv,m,c0,c1,c2,c3,f0,f2,f3,hlv,hm⟩:=SL.trace hT hst hlt;obtain⟨la,lcap,rfl,-⟩:=hlv.form;go_wp2_with fail;go_loopw [7] (fun ii wr=>∃i:Nat,i≤m∧ii= .int .i64 (i:Nat)∧PP w B3 px py wr) (fun ii _=>m-(intOf ii).toNat)
     case atStart=>exact⟨0,Nat.zero_le _,rfl,hp⟩
     case round =>
      clear hp;obtain⟨i,hi,rfl,hp⟩:=hrel;have o1:=hp.old c1;by_cases hli:i<m
      ·have hliI:(i:Int)<(m:Int):=by omega
       obtain⟨pb,po,qc,hab2,-,-⟩:=hlv.some_ (by omega);simp only[Value.slice.injEq,true_and] at hab2;obtain⟨rfl,rfl⟩:=hab2;obtain⟨x,y,d,d0,d1,d2,-,-,-⟩:=SL.spot hT hlv hli;have p0:=hp.old d0;have p1:=hp.old d1;have p2:=hp.old d2;go_upto_if 45 with (first
        |(go_at_call 182;refine (a9n _ _ _ _).mono ?_;rintro e W3⟨⟨bo,rfl⟩,hb3⟩)
        |fail)
       have hp3:=hp.up hb3;clear hp hb3 p0 p1 p2 o1
       cases bo
       ·go_wp2_with fail
        go_ret2;exact⟨⟨_,_,rfl⟩,hp3.bel⟩
       ·go_wp2_with fail
        go_roundw
        case rel=>exact⟨i+1,by omega,by go_num,hp3⟩
        case measure=>simp[intOf];omega
      ·obtain rfl:i=m:=by omega
       have hge:¬(i:Int)<(i:Int):=by omega
       go_wp2_with fail;go_roundw
       case rel=>exact⟨k+1,by omega,by go_num,hp⟩
       case measure=>simp[intOf];omega
   ·have hge:¬(k:Int)<(n:Int):=by omega
    go_wp2_with fail;have hq0:PQ w B3 px py wr.heap.size (wr.alloc (.cells (a3d 0 0 0 0 0 0 0) 251)):=by
     have hlt:=hp.p.lt;exact⟨hp.up ((zR _ _).alloc (yR _) _),⟨0,0,0,0,0,0,0,Blk.new _ _ _,⟨by decide,by decide⟩,⟨by decide,by decide⟩⟩,hp.bel.size,by omega⟩
    obtain⟨B9,hB9⟩:∃b,wr.heap.size=b:=⟨_,rfl⟩;obtain⟨W4,hW4⟩:∃W,wr.alloc (.cells (a3d 0 0 0 0 0 0 0) 251)=W:=⟨_,rfl⟩;rw[hB9,hW4] at hq0;rw[hB9,hW4];clear hB9 hW4 hp hge hlt hk;go_loopw [8,10] (fun fv kk wr=>∃(k:Nat) (fb:Bool),k≤n∧kk= .int .i64 (k:Nat)∧fv= .bool fb∧PQ w B3 px py B9 wr) (fun _ kk _=>n-(intOf kk).toNat)
    case atStart=>exact⟨0,false,Nat.zero_le _,rfl,rfl,hq0⟩
    case round =>
     clear hq0;obtain⟨k,fb,hk,rfl,rfl,hq⟩:=hrel;by_cases hlt:k<n
     ·have hltI:(k:Int)<(n:Int):=by omega
      as_aux_lemma =>
       obtain⟨b,off,cap',hab,-,-⟩:=hst.some_ (by omega);simp only[Value.slice.injEq,true_and] at hab;obtain⟨rfl,rfl⟩:=hab;obtain⟨id,l,r,lv,m,c0,c1,c2,c3,f0,f2,f3,hlv,hm⟩:=SL.trace hT hst hlt;obtain⟨la,lcap,rfl,-⟩:=hlv.form;go_wp2_with fail;go_loopw [8,11] (fun fv ii wr=>∃(i:Nat) (fb:Bool),i≤m∧ii= .int .i64 (i:Nat)∧fv= .bool fb∧PQ w B3 px py B9 wr) (fun _ ii _=>m-(intOf ii).toNat)
       case atStart=>exact⟨0,fb,Nat.zero_le _,rfl,rfl,hq⟩
       case round =>
        clear hq;obtain⟨i,fb,hi,rfl,rfl,hq⟩:=hrel;have o1:=hq.pp.old c1;by_cases hli:i+1<m
        ·have hliJ:(i:Int)<(m:Int):=by omega
         obtain⟨pb,po,qc,hab2,-,-⟩:=hlv.some_ (by omega);simp only[Value.slice.injEq,true_and] at hab2;obtain⟨rfl,rfl⟩:=hab2;obtain⟨ax,ay,ad,d0,d1,d2,ga0,ga1,ga2⟩:=SL.spot hT hlv (k:=i) (by omega);obtain⟨i1,hi1⟩:∃i1,i+1=i1:=⟨_,rfl⟩;have e1:(i:Int)+1=(i1:Int):=by omega
         have hl1:(i1:Int)<(m:Int):=by omega
         obtain⟨bx,by_,bd,d3,d4,d5,gb0,gb1,gb2⟩:=SL.spot hT hlv (k:=i1) (by omega);have p0:=hq.pp.old d0;have p1:=hq.pp.old d1;have p2:=hq.pp.old d2;have p3:=hq.pp.old d3;have p4:=hq.pp.old d4;have p5:=hq.pp.old d5;replace hi1:=Lib.hid hi1;have hbA:Below wr.heap.size wr (wr.alloc (.cells #[.int .i64 ax,.int .i64 ay,.int .i64 ad] 245)):=(zR _ _).alloc (yR _) _;have kP:=Blk.new wr #[.int .i64 ax,.int .i64 ay,.int .i64 ad] 245;have o1A:=(hbA.cell (World.block_lt_of_cell? _ _ o1)).trans o1;have p3A:=(hbA.cell (World.block_lt_of_cell? _ _ p3)).trans p3;have p4A:=(hbA.cell (World.block_lt_of_cell? _ _ p4)).trans p4;have p5A:=(hbA.cell (World.block_lt_of_cell? _ _ p5)).trans p5;have hsA:(wr.alloc (.cells #[.int .i64 ax,.int .i64 ay,.int .i64 ad] 245)).heap.size=wr.heap.size+1:=by simp
         clear p3 p4 p5;go_upto_region 20 with fail;obtain⟨WA,hWA⟩:∃W,wr.alloc (.cells #[.int .i64 ax,.int .i64 ay,.int .i64 ad] 245)=W:=⟨_,rfl⟩;rw[hWA] at hbA kP o1A p3A p4A p5A hsA;rw[hWA];obtain⟨P,hP⟩:∃b,wr.heap.size=b:=⟨_,rfl⟩;have hPl:wr.heap.size≤P:=by omega
         rw[hP] at kP hsA;rw[hP];clear hWA p0 p1 p2 o1;have hbB:Below WA.heap.size WA (WA.alloc (.cells #[.int .i64 bx,.int .i64 by_,.int .i64 bd] 245)):=(zR _ _).alloc (yR _) _;have kQ:=Blk.new WA #[.int .i64 bx,.int .i64 by_,.int .i64 bd] 245;have kP:=kP.alloc (.cells #[.int .i64 bx,.int .i64 by_,.int .i64 bd] 245);go_upto_region 21 with fail;obtain⟨W5,hW5⟩:∃W,WA.alloc (.cells #[.int .i64 bx,.int .i64 by_,.int .i64 bd] 245)=W:=⟨_,rfl⟩;rw[hW5] at hbB kQ kP;rw[hW5];obtain⟨Q,hQ⟩:∃b,P+1=b:=⟨_,rfl⟩;rw[hsA,hQ] at kQ;rw[hQ];clear hW5 o1A p3A p4A p5A;have hb5:Below wr.heap.size wr W5:=hbA.trans (hbB.mono hbA.size);have hq5:=hq.up hb5;have o2:=hq.pp.old c2;have o3:=hq.pp.old c3;have hA5:AtW wr P Q b off k ax ay ad bx by_ bd l r W5:=⟨hb5,kP,kQ,(hb5.cell (World.block_lt_of_cell? _ _ o2)).trans o2,(hb5.cell (World.block_lt_of_cell? _ _ o3)).trans o3⟩;clear hbA hbB hsA hQ hP o2 o3 hq e1 hl1 hi1 d0 d1 d2 d3 d4 d5;obtain⟨a0,a1,a2⟩:=st3 kP;obtain⟨b0,b1,b2⟩:=st3 kQ;obtain⟨q0,q1,-,-⟩:=pt2 hq5.pp.p;go_upto_if 83 with (first
          |(go_at_call 184;refine (d1w _ _ _ _ _ _ _ _ _ ga0 ga1 ga2 gb0 gb1 gb2 fpx fpy).mono ?_;rintro e W6⟨⟨bo,rfl⟩,hb6⟩)
          |fail)
         have hq6:=hq5.up hb6;have hA6:=hA5.up hb6;clear hq5 hA5 kP kQ a0 a1 a2 b0 b1 b2 q0 q1 hb6
         cases bo
         case true =>
          go_wp2_with fail;go_ret2;exact⟨⟨_,_,rfl⟩,hq6.pp.bel⟩
         case false =>
          obtain⟨a0,a1,a2⟩:=st3 hA6.p;obtain⟨b0,b1,b2⟩:=st3 hA6.q;obtain⟨q0,q1,-,-⟩:=pt2 hq6.pp.p;go_upto_region 24 with (first
           |(go_at_call 185;refine (b9r _ _ _ _ _ _ _ _ _ ga1 ga2 gb1 gb2 fpy).mono ?_;rintro e W7⟨⟨x,rfl⟩,hb7⟩)
           |fail)
          have hq7:=hq6.up hb7;have hA7:=hA6.up hb7;clear hq6 hA6 a0 a1 a2 b0 b1 b2 q0 q1 hb7;have hA8:AtW W7 P Q b off k ax ay ad bx by_ bd l r W7:=⟨zR _ _,hA7.p,hA7.q,hA7.c2,hA7.c3⟩;clear hA7;refine Go.wp_region_rel 9 (by kernel_rfl) (by kernel_rfl) (fun _ W=>AtW W7 P Q b off k ax ay ad bx by_ bd l r W) (fun w w'=>Below w.heap.size w w') (FAa W7 P Q b off n cap k ax ay ad bx by_ bd r) (fun _ _ _ _ h g=>h.kept g) (hA8.up (zR _ _).drew) ?_ ?_
          ·clear hst hlv hT c0 c1 c2 c3 hA8 hq7
           intro j o hj ho c bb W hc hM hA hD K hK;match j,hj,ho with
           |0,_,ho =>
            cases ho;have f12:=a0a (v:= .pointer (some ⟨P,0,none⟩)) (hA.at_ (k:=12) (by kernel_rfl));have z0:W.cell? ⟨P,0,none⟩=some (.int .i64 ax):=hM.p.cell 0;have z1:W.cell? ⟨P,1,none⟩=some (.int .i64 ay):=hM.p.cell 1;have z2:W.cell? ⟨P,2,none⟩=some (.int .i64 ad):=hM.p.cell 2;go_simp;exact hK (.agg #[.int .i64 ax,.int .i64 ay,.int .i64 ad]) W rfl (zR _ _) hM
           |1,_,ho =>
            cases ho;have f13:=a0a (v:= .pointer (some ⟨Q,0,none⟩)) (hA.at_ (k:=13) (by kernel_rfl));have z0:W.cell? ⟨Q,0,none⟩=some (.int .i64 bx):=hM.q.cell 0;have z1:W.cell? ⟨Q,1,none⟩=some (.int .i64 by_):=hM.q.cell 1;have z2:W.cell? ⟨Q,2,none⟩=some (.int .i64 bd):=hM.q.cell 2;go_simp;exact hK (.agg #[.int .i64 bx,.int .i64 by_,.int .i64 bd]) W rfl (zR _ _) hM
           |2,_,ho =>
            cases ho;have f0:=a0a (v:= .slice (some ⟨b,off,none⟩) n cap) (hA.at_ (k:=0) (by kernel_rfl));go_simp;exact hK (.slice (some ⟨b,off,none⟩) n cap) W rfl (zR _ _) hM
           |3,_,ho =>
            cases ho;have f10:=a0a (v:= .int .i64 (k:Nat)) (hA.at_ (k:=10) (by kernel_rfl));go_simp;exact hK (.int .i64 (k:Nat)) W rfl (zR _ _) hM
           |4,_,ho =>
            cases ho;have f90:=a0a (v:= .slice (some ⟨b,off,none⟩) n cap) (a0i hD 2 90 (by kernel_rfl) rfl rfl);have f91:=a0a (v:= .int .i64 (k:Nat)) (a0i hD 3 91 (by kernel_rfl) rfl rfl);go_simp;exact hK (.pointer (some ⟨b,off+k*4,none⟩)) W rfl (zR _ _) hM
           |5,_,ho =>
            cases ho;have f92:=a0a (v:= .pointer (some ⟨b,off+k*4,none⟩)) (a0i hD 4 92 (by kernel_rfl) rfl rfl);go_simp;exact hK (.pointer (some ⟨b,off+k*4+3,none⟩)) W rfl (zR _ _) hM
           |6,_,ho =>
            cases ho;have f93:=a0a (v:= .pointer (some ⟨b,off+k*4+3,none⟩)) (a0i hD 5 93 (by kernel_rfl) rfl rfl);have z0:W.cell? ⟨b,off+k*4+3,none⟩=some (.int .i64 r):=hM.c3;go_simp;exact hK (.int .i64 r) W rfl (zR _ _) hM
           |7,_,ho =>
            cases ho;have f88:=a0a (v:= .agg #[.int .i64 ax,.int .i64 ay,.int .i64 ad]) (a0i hD 0 88 (by kernel_rfl) rfl rfl);have f89:=a0a (v:= .agg #[.int .i64 bx,.int .i64 by_,.int .i64 bd]) (a0i hD 1 89 (by kernel_rfl) rfl rfl);have f94:=a0a (v:= .int .i64 r) (a0i hD 6 94 (by kernel_rfl) rfl rfl);go_simp;exact hK (.agg (a3d ax ay ad bx by_ bd r)) W rfl (zR _ _) hM
           |8,_,ho =>
            cases ho;go_simp;exact hK (.pointer (some ⟨W.heap.size,0,none⟩)) _ ⟨_,rfl,hM.bel.size,Blk.new _ _ _⟩ ((zR _ _).alloc (yR _) _) (hM.up ((zR _ _).alloc (yR _) _))
           |i+9,hi,_=>exact absurd hi (by omega)
          ·intro bb W hM hA hall
           have hP7:bb.eval (.tmp 95)= .agg (a3d ax ay ad bx by_ bd r):=hall 7 (by omega) _ _ rfl rfl;obtain⟨BL,hP8,hBl,kL0⟩:=(show ∃B,bb.eval (.tmp 15)= .pointer (some ⟨B,0,none⟩)∧W7.heap.size≤B∧Blk W B (a3d 0 0 0 0 0 0 0) 251 from hall 8 (by omega) _ _ rfl rfl);have hfr:=hA.frame [T,T,T,T,T,T,T,T,T,T,T,T,T,T,T,F,T,T,T,T,T,T,T,T,T,T,T,T,T,T,T,T,T,T,T,T,T,T,T,T,T,T,T,T,T,T,T,T,T,T,T,T,T,T,T,T,T,T,T,T,T,T,T,T,T,T,T,T,T,T,T,T,T,T,T,T,T,T,T,T,T,T,T,T,T,T,T,T,F,F,F,F,F,F,F,F,T,T,T,T,T,T,T,T,T,T,T,T,T,T,T,T,T,T,T,T,T,T,T,T] _ rfl (by kernel_rfl);clear hall hA;obtain⟨f,hf⟩:∃f:Nat→Value,(fun k=>bb.tmps.getD k undef)=f:=⟨_,rfl⟩;have g95:f 95= .agg (a3d ax ay ad bx by_ bd r):=by rw[←hf,←hP7];rfl
           have g15:f 15= .pointer (some ⟨BL,0,none⟩):=by rw[←hf,←hP8];rfl
           rw[hf] at hfr;clear hf hP7 hP8;subst hfr;simp only[a2k,g95,g15,a3d,Nat.reduceAdd];clear g95 g15;simp only[List.drop_succ_cons,List.drop_zero];refine a1r (by rfl) _ _ _ (by rfl) BL (a3d ax ay ad bx by_ bd r) (by rfl) (by rfl) _ _ kL0 (by rfl) (by rfl) (by simp[a3d,Value.oneCell']) ?_;intro W8 k15 hg8;have hbL:Below W7.heap.size W7 W8:=hM.bel.trans (Below.of_grown hg8 hM.bel.size (fun r e=>by cases e;exact hBl));clear hM kL0 hg8;go_upto_region 25 with fail;by_cases hx:x<0
           ·have hA9:=hA8.up hbL
            have hA10:AtW W8 P Q b off k ax ay ad bx by_ bd l r W8:=⟨zR _ _,hA9.p,hA9.q,hA9.c2,hA9.c3⟩;clear hA9 hA8;go_upto_region 26 with fail;refine Go.wp_region_rel 8 (by kernel_rfl) (by kernel_rfl) (fun _ W=>AtW W8 P Q b off k ax ay ad bx by_ bd l r W) (fun w w'=>Below w.heap.size w w') (FAb P Q b off n cap k ax ay ad bx by_ bd l) (fun _ _ _ _ h g=>h.kept g) (hA10.up (zR _ _).drew) ?_ ?_
            ·clear hst hlv hT c0 c1 c2 c3 hA10 hq7
             intro j o hj ho c bb W hc hM hA hD K hK;match j,hj,ho with
             |0,_,ho =>
              cases ho;have f13:=a0a (v:= .pointer (some ⟨Q,0,none⟩)) (hA.at_ (k:=13) (by kernel_rfl));have z0:W.cell? ⟨Q,0,none⟩=some (.int .i64 bx):=hM.q.cell 0;have z1:W.cell? ⟨Q,1,none⟩=some (.int .i64 by_):=hM.q.cell 1;have z2:W.cell? ⟨Q,2,none⟩=some (.int .i64 bd):=hM.q.cell 2;go_simp;exact hK (.agg #[.int .i64 bx,.int .i64 by_,.int .i64 bd]) W rfl (zR _ _) hM
             |1,_,ho =>
              cases ho;have f12:=a0a (v:= .pointer (some ⟨P,0,none⟩)) (hA.at_ (k:=12) (by kernel_rfl));have z0:W.cell? ⟨P,0,none⟩=some (.int .i64 ax):=hM.p.cell 0;have z1:W.cell? ⟨P,1,none⟩=some (.int .i64 ay):=hM.p.cell 1;have z2:W.cell? ⟨P,2,none⟩=some (.int .i64 ad):=hM.p.cell 2;go_simp;exact hK (.agg #[.int .i64 ax,.int .i64 ay,.int .i64 ad]) W rfl (zR _ _) hM
             |2,_,ho =>
              cases ho;have f0:=a0a (v:= .slice (some ⟨b,off,none⟩) n cap) (hA.at_ (k:=0) (by kernel_rfl));go_simp;exact hK (.slice (some ⟨b,off,none⟩) n cap) W rfl (zR _ _) hM
             |3,_,ho =>
              cases ho;have f10:=a0a (v:= .int .i64 (k:Nat)) (hA.at_ (k:=10) (by kernel_rfl));go_simp;exact hK (.int .i64 (k:Nat)) W rfl (zR _ _) hM
             |4,_,ho =>
              cases ho;have f100:=a0a (v:= .slice (some ⟨b,off,none⟩) n cap) (a0i hD 2 100 (by kernel_rfl) rfl rfl);have f101:=a0a (v:= .int .i64 (k:Nat)) (a0i hD 3 101 (by kernel_rfl) rfl rfl);go_simp;exact hK (.pointer (some ⟨b,off+k*4,none⟩)) W rfl (zR _ _) hM
             |5,_,ho =>
              cases ho;have f102:=a0a (v:= .pointer (some ⟨b,off+k*4,none⟩)) (a0i hD 4 102 (by kernel_rfl) rfl rfl);go_simp;exact hK (.pointer (some ⟨b,off+k*4+2,none⟩)) W rfl (zR _ _) hM
             |6,_,ho =>
              cases ho;have f103:=a0a (v:= .pointer (some ⟨b,off+k*4+2,none⟩)) (a0i hD 5 103 (by kernel_rfl) rfl rfl);have z0:W.cell? ⟨b,off+k*4+2,none⟩=some (.int .i64 l):=hM.c2;go_simp;exact hK (.int .i64 l) W rfl (zR _ _) hM
             |7,_,ho =>
              cases ho;have f98:=a0a (v:= .agg #[.int .i64 bx,.int .i64 by_,.int .i64 bd]) (a0i hD 0 98 (by kernel_rfl) rfl rfl);have f99:=a0a (v:= .agg #[.int .i64 ax,.int .i64 ay,.int .i64 ad]) (a0i hD 1 99 (by kernel_rfl) rfl rfl);have f104:=a0a (v:= .int .i64 l) (a0i hD 6 104 (by kernel_rfl) rfl rfl);go_simp;exact hK (.agg (a3d bx by_ bd ax ay ad l)) W rfl (zR _ _) hM
             |i+8,hi,_=>exact absurd hi (by omega)
            ·intro bb W hM hA hall
             have hP7:bb.eval (.tmp 105)= .agg (a3d bx by_ bd ax ay ad l):=hall 7 (by omega) _ _ rfl rfl;have hfr:=hA.frame [T,T,T,T,T,T,T,T,T,T,T,T,T,T,T,T,T,T,T,T,T,T,T,T,T,T,T,T,T,T,T,T,T,T,T,T,T,T,T,T,T,T,T,T,T,T,T,T,T,T,T,T,T,T,T,T,T,T,T,T,T,T,T,T,T,T,T,T,T,T,T,T,T,T,T,T,T,T,T,T,T,T,T,T,T,T,T,T,T,T,T,T,T,T,T,T,T,T,F,F,F,F,F,F,F,F,T,T,T,T,T,T,T,T,T,T,T,T,T,T] _ rfl (by kernel_rfl);clear hall hA;obtain⟨f,hf⟩:∃f:Nat→Value,(fun k=>bb.tmps.getD k undef)=f:=⟨_,rfl⟩;have g105:f 105= .agg (a3d bx by_ bd ax ay ad l):=by rw[←hf,←hP7];rfl
             rw[hf] at hfr;clear hf hP7;subst hfr;simp only[a2k,g105,a3d,Nat.reduceAdd];clear g105;simp only[List.drop_succ_cons,List.drop_zero];have k15:=k15.below hM.bel k15.lt;refine a1r (by rfl) _ _ _ (by rfl) BL (a3d bx by_ bd ax ay ad l) (by rfl) (by rfl) _ _ k15 (by rfl) (by rfl) (by simp[a3d,Value.oneCell']) ?_;clear k15;intro W9 k15 hg9;have hq:=hq7.up ((hbL.trans (hM.bel.mono hbL.size)).trans (Below.of_grown hg9 (hbL.trans (hM.bel.mono hbL.size)).size (fun r e=>by cases e;exact hBl)));clear hM hq7 hbL hx hg9;go_upto_region 27 with fail;have g1:=gb1;have g2:=gb2;obtain⟨⟨r0,r1,r2,r3,r4,r5,r6⟩,-⟩:=b4y k15;obtain⟨z0,z1,z2,z3,z4,z5,z6,k9,fz1,fz2⟩:=hq.q;obtain⟨⟨s0,s1,s2,s3,s4,s5,s6⟩,t0,t1,t2,t3,t4,t5,t6⟩:=b4y k9;by_cases hx0:x=0
             ·have hxb:(x != 0)=false:=by simp[hx0]
              go_wp2_with fail;go_roundw
              case rel=>exact⟨i+1,fb,by omega,by go_num,rfl,hq⟩
              case measure=>simp[intOf];omega
             ·have hxb:(x != 0)=true:=by simp[hx0]
              cases fb
              ·go_wp2_with (first
                |(refine a1r (by rfl) _ _ _ (by rfl) B9 (a3d _ _ _ _ _ _ _) (by rfl) (by rfl) _ _ k9 (by rfl) (by rfl) (by simp[a3d,Value.oneCell']) ?_;intro WS kS hgS)
                |fail)
               go_roundw
               case rel=>exact⟨i+1,true,by omega,by go_num,rfl,hq.best2 kS hgS g1 g2⟩
               case measure=>simp[intOf];omega
              ·clear t0 t1 t2 t3 t4 t5 t6 k9
               go_upto_if 116 with (first
                |(go_at_call 186;refine (b3j _ _ _ _ _ _ _ _ _ _ _ _ _ _ _ fz1 fz2 g1 g2).mono ?_;rintro e WB⟨⟨bo,rfl⟩,hbB⟩)
                |fail)
               clear r0 r1 r2 r3 r4 r5 r6 s0 s1 s2 s3 s4 s5 s6;have k15:=k15.below hbB k15.lt;have hq:=hq.up hbB
               cases bo
               ·go_wp2_with fail
                go_roundw
                case rel=>exact⟨i+1,true,by omega,by go_num,rfl,hq⟩
                case measure=>simp[intOf];omega
               ·obtain⟨⟨r0,r1,r2,r3,r4,r5,r6⟩,-⟩:=b4y k15
                obtain⟨z0,z1,z2,z3,z4,z5,z6,k9,-,-⟩:=hq.q;obtain⟨⟨s0,s1,s2,s3,s4,s5,s6⟩,t0,t1,t2,t3,t4,t5,t6⟩:=b4y k9;go_wp2_with (first
                 |(refine a1r (by rfl) _ _ _ (by rfl) B9 (a3d _ _ _ _ _ _ _) (by rfl) (by rfl) _ _ k9 (by rfl) (by rfl) (by simp[a3d,Value.oneCell']) ?_;intro WS kS hgS)
                 |fail)
                go_roundw
                case rel=>exact⟨i+1,true,by omega,by go_num,rfl,hq.best2 kS hgS g1 g2⟩
                case measure=>simp[intOf];omega
           ·have hq:=hq7.up hbL
            clear hq7 hbL hA8;have g1:=ga1;have g2:=ga2;go_upto_region 27 with fail;clear hx;obtain⟨⟨r0,r1,r2,r3,r4,r5,r6⟩,-⟩:=b4y k15;obtain⟨z0,z1,z2,z3,z4,z5,z6,k9,fz1,fz2⟩:=hq.q;obtain⟨⟨s0,s1,s2,s3,s4,s5,s6⟩,t0,t1,t2,t3,t4,t5,t6⟩:=b4y k9;by_cases hx0:x=0
            ·have hxb:(x != 0)=false:=by simp[hx0]
             go_wp2_with fail;go_roundw
             case rel=>exact⟨i+1,fb,by omega,by go_num,rfl,hq⟩
             case measure=>simp[intOf];omega
            ·have hxb:(x != 0)=true:=by simp[hx0]
             cases fb
             ·go_wp2_with (first
               |(refine a1r (by rfl) _ _ _ (by rfl) B9 (a3d _ _ _ _ _ _ _) (by rfl) (by rfl) _ _ k9 (by rfl) (by rfl) (by simp[a3d,Value.oneCell']) ?_;intro WS kS hgS)
               |fail)
              go_roundw
              case rel=>exact⟨i+1,true,by omega,by go_num,rfl,hq.best2 kS hgS g1 g2⟩
              case measure=>simp[intOf];omega
             ·clear t0 t1 t2 t3 t4 t5 t6 k9
              go_upto_if 116 with (first
               |(go_at_call 186;refine (b3j _ _ _ _ _ _ _ _ _ _ _ _ _ _ _ fz1 fz2 g1 g2).mono ?_;rintro e WB⟨⟨bo,rfl⟩,hbB⟩)
               |fail)
              clear r0 r1 r2 r3 r4 r5 r6 s0 s1 s2 s3 s4 s5 s6;have k15:=k15.below hbB k15.lt;have hq:=hq.up hbB
              cases bo
              ·go_wp2_with fail
               go_roundw
               case rel=>exact⟨i+1,true,by omega,by go_num,rfl,hq⟩
               case measure=>simp[intOf];omega
              ·obtain⟨⟨r0,r1,r2,r3,r4,r5,r6⟩,-⟩:=b4y k15
               obtain⟨z0,z1,z2,z3,z4,z5,z6,k9,-,-⟩:=hq.q;obtain⟨⟨s0,s1,s2,s3,s4,s5,s6⟩,t0,t1,t2,t3,t4,t5,t6⟩:=b4y k9;go_wp2_with (first
                |(refine a1r (by rfl) _ _ _ (by rfl) B9 (a3d _ _ _ _ _ _ _) (by rfl) (by rfl) _ _ k9 (by rfl) (by rfl) (by simp[a3d,Value.oneCell']) ?_;intro WS kS hgS)
                |fail)
               go_roundw
               case rel=>exact⟨i+1,true,by omega,by go_num,rfl,hq.best2 kS hgS g1 g2⟩
               case measure=>simp[intOf];omega
        ·have hge:¬(i:Int)+1<(m:Int):=by omega
         go_wp2_with fail;go_roundw
         case rel=>exact⟨k+1,fb,by omega,by go_num,rfl,hq⟩
         case measure=>simp[intOf];omega
     ·have hge:¬(k:Int)<(n:Int):=by omega
      obtain⟨z0,z1,z2,z3,z4,z5,z6,k9,fz1,fz2⟩:=hq.q;obtain⟨⟨s0,s1,s2,s3,s4,s5,s6⟩,-⟩:=b4y k9;go_wp2_with fail;go_ret2;exact⟨⟨_,_,rfl⟩,hq.pp.bel⟩
end
section
open Go.RowKit Go.Shelf
attribute [local go_sem] Oper.semAt_some
attribute [local go_sem ↓] Go.wp_at_zero Go.wp_at_succ
theorem c9n (n m:Int)(w:World)(hn:a0k n)(h1:1≤m)(h2:m≤1000000):Calls prog 77 #[.int .i64 n,.int .i64 m] w fun e w'=>∃r,e= .returned (.int .i64 r)∧0≤r∧r<m∧w=w':=by
 refine (a0p n m w hn h1 (by omega)).mono ?_;rintro e w'⟨rfl,rfl⟩;exact⟨_,rfl,Int.emod_nonneg _ (by omega),Int.emod_lt_of_pos _ (by omega),rfl⟩
theorem c9o (lv:Value)(ls:List Int)(i j:Nat)(w:World)(hI:Ints w.heap.size w lv ls)(hl:b4d ls.length)(hi:i≤4)(hj:j≤4) :
 Calls prog 128 #[lv,.int .i64 i,.int .i64 j] w fun e w'=>(∃x y,e= .returned (.agg #[.int .i64 x,.int .i64 y])∧a0k x∧a0k y)∧Below w.heap.size w w':=by
 obtain⟨q,hq⟩:∃q:Nat,4*j+i=q:=⟨_,rfl⟩;have w1:IntKind.i64.wrap (4*(j:Int))=4*(j:Int):=a0u (by omega) (by omega);have w2:IntKind.i64.wrap (4*(j:Int)+(i:Int))=q:=by rw[a0u (by omega) (by omega)];omega
 have w3:IntKind.i64.wrap (2*(q:Int))=2*(q:Int):=a0u (by omega) (by omega);have w4:IntKind.i64.wrap (2*(q:Int)+1)=2*(q:Int)+1:=a0u (by omega) (by omega);have e2:4*(j:Int)+(i:Int)=q:=by omega
 obtain⟨a,cap,rfl,hc⟩:=hI;by_cases hlt:2*q+1<ls.length
 ·have hltI:2*(q:Int)+1<(ls.length:Int):=by omega
  have hltJ:2*(q:Int)<(ls.length:Int):=by omega
  obtain⟨b,off,rfl,hb,f0,c0⟩:=hc (2*q) (by omega);obtain⟨b',off',hab,-,f1,c1⟩:=hc (2*q+1) hlt;simp only[Option.some.injEq,Addr.mk.injEq,and_true] at hab;obtain⟨rfl,rfl⟩:=hab;obtain⟨x,hx⟩:∃x,ls[2*q]=x:=⟨_,rfl⟩;obtain⟨y,hy⟩:∃x,ls[2*q+1]=x:=⟨_,rfl⟩;rw[hx] at f0 c0;rw[hy] at f1 c1;clear hc hx hy hl;replace hq:=Lib.hid hq;go_enter func128,ntmps128;go_wp2_with (first|(go_at_call 77;refine (c9n _ 21 _ (by first|exact f0|exact f1) (by omega) (by omega)).mono ?_;rintro e w'⟨r,rfl,r0,r1,rfl⟩)|fail);exact bodyPost_ret (results_cell_row (by rfl) _ _ w.heap.size 26 _ (0,0) _ (by rfl) (Blk.new w _ _) underlying26 (by rfl) (by kernel_rfl)) rfl ⟨⟨_,_,rfl,(by first|with_reducible (first|exact a0j _|exact a0m _|assumption|exact a0n (by omega))|exact⟨by omega,by omega⟩),(by first|with_reducible (first|exact a0j _|exact a0m _|assumption|exact a0n (by omega))|exact⟨by omega,by omega⟩)⟩,zC⟩
 ·have hgeI:¬2*(q:Int)+1<(ls.length:Int):=by omega
  clear hc hl;replace hq:=Lib.hid hq;go_enter func128,ntmps128;go_wp2_with fail;exact bodyPost_ret (results_cell_row (by rfl) _ _ w.heap.size 26 _ (0,0) _ (by rfl) (Blk.new w _ _) underlying26 (by rfl) (by kernel_rfl)) rfl ⟨⟨_,_,rfl,(by first|with_reducible (first|exact a0j _|exact a0m _|assumption|exact a0n (by omega))|exact⟨by omega,by omega⟩),(by first|with_reducible (first|exact a0j _|exact a0m _|assumption|exact a0n (by omega))|exact⟨by omega,by omega⟩)⟩,zC⟩
theorem c9p (a0 a1 a2 a3 a4 a5 cw ch i j:Int)(w:World)(f0:a0k a0)(f1:a0k a1)(f2:a0k a2)(f3:a0k a3)(f4:a0k a4)(f5:a0k a5)(hw:cw≤3)(hh:ch≤2) :
 Calls prog 129 #[.agg #[.int .i64 a0,.int .i64 a1,.int .i64 a2,.int .i64 a3,.int .i64 a4,.int .i64 a5],.int .i64 cw,.int .i64 ch,.int .i64 i,.int .i64 j] w fun e w'=>(∃x,e= .returned (.int .i64 x)∧a0k x)∧Below w.heap.size w w':=by
 by_cases h1:i<0
 ·go_enter func129,ntmps129
  go_wp2_with fail;go_ret;exact⟨⟨0,rfl,(by first|with_reducible (first|exact a0j _|exact a0m _|assumption|exact a0n (by omega))|exact⟨by omega,by omega⟩)⟩,zC⟩
 ·by_cases h2:j<0
  ·go_enter func129,ntmps129
   go_wp2_with fail;go_ret;exact⟨⟨0,rfl,(by first|with_reducible (first|exact a0j _|exact a0m _|assumption|exact a0n (by omega))|exact⟨by omega,by omega⟩)⟩,zC⟩
  ·by_cases h3:cw≤i
   ·go_enter func129,ntmps129
    go_wp2_with fail;go_ret;exact⟨⟨0,rfl,(by first|with_reducible (first|exact a0j _|exact a0m _|assumption|exact a0n (by omega))|exact⟨by omega,by omega⟩)⟩,zC⟩
   ·by_cases h4:ch≤j
    ·go_enter func129,ntmps129
     go_wp2_with fail;go_ret;exact⟨⟨0,rfl,(by first|with_reducible (first|exact a0j _|exact a0m _|assumption|exact a0n (by omega))|exact⟨by omega,by omega⟩)⟩,zC⟩
    ·rcases (show i=0∨i=1∨i=2 from by omega) with rfl|rfl|rfl
     all_goals
      rcases (show j=0∨j=1 from by omega) with rfl|rfl
      all_goals
       go_enter func129,ntmps129;go_wp2_with fail;go_ret;exact⟨⟨_,rfl,(by first|with_reducible (first|exact a0j _|exact a0m _|assumption|exact a0n (by omega))|exact⟨by omega,by omega⟩)⟩,zC⟩
structure Intz (n₀:Nat)(W:World)(v:Value)(xs:List Int):Prop where
 ints:Ints n₀ W v xs
 len:b4d xs.length
theorem Intz.nil (n₀:Nat)(W:World):Intz n₀ W (.slice none 0 0) []:=⟨⟨none,0,rfl,fun j hj=>by simp at hj⟩,Nat.zero_le _⟩
def Mat (n₀:Nat)(W:World)(lv:Value)(rows:List (Value×List Int)):Prop :=
 ∃a cap,lv= .slice a rows.length cap∧rows.length≤cap∧∀j,(h:j<rows.length)→∃b off,a=some ⟨b,off,none⟩∧b<n₀∧W.cell? ⟨b,off+j,none⟩=some rows[j].1∧Intz n₀ W rows[j].1 rows[j].2
theorem Intz.below {n₀:Nat}{A B:World}(h:Below n₀ A B){v:Value}{xs:List Int}(k:Intz n₀ A v xs):Intz n₀ B v xs:=⟨k.ints.below h,k.len⟩
theorem Mat.below {n₀:Nat}{A B:World}(h:Below n₀ A B){lv:Value}{rows:List (Value×List Int)}:Mat n₀ A lv rows→Mat n₀ B lv rows
 |⟨a,cap,e,hc,f⟩=>⟨a,cap,e,hc,fun j hj=>by
  obtain⟨b,off,h1,h2,h3,h4⟩:=f j hj;exact⟨b,off,h1,h2,(h.cell (p:=⟨b,off+j,none⟩) h2).trans h3,h4.below h⟩⟩
theorem Mat.mono {n₀ n₁:Nat}(h:n₀≤n₁){W:World}{lv:Value}{rows:List (Value×List Int)}:Mat n₀ W lv rows→Mat n₁ W lv rows
 |⟨a,cap,e,hc,f⟩=>⟨a,cap,e,hc,fun j hj=>by
  obtain⟨b,off,h1,h2,h3,⟨a2,c2,e2,f2⟩,h5⟩:=f j hj;exact⟨b,off,h1,by omega,h3,⟨a2,c2,e2,fun i hi=>by obtain⟨b',o',k1,k2,k3⟩:=f2 i hi;exact⟨b',o',k1,by omega,k3⟩⟩,h5⟩⟩
structure Same1 (w w2:World):Prop where
 eq:w=w2
def OB6 (W:World)(B:Nat):Prop:=∃c,Blk W B c 194∧c.size=6∧∀u∈c.toList,∃x,u= .int .i64 x∧a0k x
theorem OB6.kept {W W':World}{B:Nat}{row:Option Nat}(h:OB6 W B)(hg:W.grownBy W' row)(hr:row≠some B):OB6 W' B:=by
 obtain⟨c,h1,h2,h3⟩:=h;exact⟨c,h1.kept hg hr,h2,h3⟩
theorem OB6.ev {X S S':BS}{W W':World}{B:Nat}(h:OB6 W B)(he:Ev X S W S' W')(hS:¬S B)(hX:¬X B):OB6 W' B:=by
 obtain⟨c,h1,h2,h3⟩:=h;exact⟨c,he.blk h1 hS hX,h2,h3⟩
theorem OB6.lt {W:World}{B:Nat}(h:OB6 W B):B<W.heap.size:=by obtain⟨c,h1,-⟩:=h;exact h1.lt
theorem OB6.at_ {W:World}{B:Nat}(h:OB6 W B){q:Nat}(hq:q<6):∃x,W.cell? ⟨B,q,none⟩=some (.int .i64 x)∧a0k x:=by
 obtain⟨c,h1,h2,h3⟩:=h;obtain⟨x,hx,fx⟩:=h3 (c[q]'(by omega)) (by simp);exact⟨x,by rw[h1.cell,Array.getElem?_eq_getElem (by omega),hx],fx⟩
theorem OB6.set {W:World}{B:Nat}(h:OB6 W B)(q:Nat){x:Int}(fx:a0k x):OB6 (W.setCell ⟨B,q,none⟩ (.int .i64 x)) B:=by
 obtain⟨c,h1,h2,h3⟩:=h;refine⟨_,h1.set q _,by simpa using h2,fun u hu=> ?_⟩;rw[Array.toList_setIfInBounds] at hu;rcases List.mem_or_eq_of_mem_set hu with hu|rfl
 ·exact h3 u hu
 ·exact⟨x,rfl,fx⟩
theorem OB6.frozen {W:World}{B:Nat}(h:OB6 W B)(q:Nat):W.frozen? ⟨B,q,none⟩=false:=by obtain⟨c,h1,-⟩:=h;exact h1.frozen q
theorem Ev.wide {X Y S0 S S':BS}{W0 W W':World}(h:Ev X S0 W0 S W)(he:Ev Y S W S' W')(hY:∀b,Y b→W0.heap.size≤b):Ev X S0 W0 S' W' :=
 ⟨fun b hb=>he.sub b (h.sub b hb),fun b hb=>by
  rcases he.new b hb with h1|h1
  ·exact h.new b h1
  ·exact .inr (Nat.le_trans h.size h1),he.os.trans h.os,he.tape.trans h.tape,he.output.trans h.output,Nat.le_trans h.size he.size,fun b hb hn hx=>by
  have hn1:¬S b:=fun h1=>by
   rcases h.new b h1 with h2|h2
   ·exact hn h2
   ·omega
  exact (he.rest b (Nat.lt_of_lt_of_le hb h.size) hn1 (fun hy=>by have:=hY b hy;omega)).trans (h.rest b hb hn hx),h.shape.trans he.shape h.sub,he.ok⟩
structure M7 (w:World)(D BO:Nat)(fv:Value)(fs:List Int)(S:BS)(W:World):Prop where
 td:TD S w.heap.size D fv fs W
 ob:OB6 W BO
 nO:¬S BO
 lO:w.heap.size≤BO
 dO:BO≠D
 bel:Ev noB noB w S W
section
variable {w W W':World}{D BO:Nat}{fv:Value}{fs:List Int}{S S':BS}
theorem M7.next (h:M7 w D BO fv fs S W)(m:Int)(hm1:1≤m)(hm2:m≤1000000) :
 Calls prog 73 #[.pointer (some ⟨D,0,none⟩),.int .i64 m] W fun e W'=>∃v,e= .returned (.int .i64 v)∧0≤v∧v<m∧M7 w D BO fv fs S W'∧W.grownBy W' (some D)∧Ev (a9j D) S W S W':=by
 refine (h.td.call m hm1 (by omega)).mono ?_;rintro e W'⟨v,rfl,h0,h1,h2,hg,he⟩;exact⟨v,rfl,h0,h1,⟨h2,h.ob.kept hg (fun e=>h.dO (Option.some.inj e).symm),h.nO,h.lO,h.dO,h.bel.wide he (fun b hb=>by cases hb;exact h.td.le)⟩,hg,he⟩
theorem M7.evo (h:M7 w D BO fv fs S W)(he:Ev noB S W S' W'):M7 w D BO fv fs S' W' :=
 ⟨h.td.ev he (fun _ h=>h.elim),h.ob.ev he h.nO (fun h=>h),he.not h.ob.lt h.nO,h.lO,h.dO,h.bel.trans he⟩
theorem M7.up (h:M7 w D BO fv fs S W)(hb:Below W.heap.size W W'):M7 w D BO fv fs S W':=h.evo (Ev.of_below h.td.tw hb)
theorem TD.own {S:BS}{n₀ D:Nat}{sv:Value}{xs:List Int}{W:World}(h:TD S n₀ D sv xs W){B:Nat}(hB:n₀≤B)(hD:B≠D)(hS:¬S B)(i:Nat)(v:Value):TD S n₀ D sv xs (W.setCell ⟨B,i,none⟩ v):=by
 obtain⟨j,hj,hb⟩:=h.box;have hg:=a1g W B i v;have hlt:=h.lt;refine⟨h.tw.of_same (fun b hb=>hg.block b (h.tw.lt hb) (fun e=>hS (by cases e;exact hb))),⟨j,hj,hb.kept hg (fun e=>hD (Option.some.inj e))⟩,h.ints.below (Below.of_grown hg (by have:=h.le;omega) (fun q e=>by cases e;exact hB)),h.le,h.len,h.low,h.not⟩
theorem M7.set (h:M7 w D BO fv fs S W)(q:Nat){x:Int}(fx:a0k x):M7 w D BO fv fs S (W.setCell ⟨BO,q,none⟩ (.int .i64 x)) :=
 ⟨h.td.own h.lO h.dO h.nO q _,h.ob.set q fx,h.nO,h.lO,h.dO,h.bel.own (a1g W BO q _) (fun r e=>by cases e;exact⟨h.nO,h.lO⟩)⟩
end
structure M8 (w:World)(D BO:Nat)(fv:Value)(fs:List Int)(E:Nat)(tv:Value)(ts:List Int)(S:BS)(W:World):Prop where
 m7:M7 w D BO fv fs S W
 te:TD S w.heap.size E tv ts W
 dE:D≠E
 oE:BO≠E
section
variable {w W W':World}{D BO E:Nat}{fv tv:Value}{fs ts:List Int}{S S':BS}
theorem M8.then_ (h:M8 w D BO fv fs E tv ts S W)(ht:TD S' w.heap.size E tv ts W')(he:Ev (a9j E) S W S' W'):M8 w D BO fv fs E tv ts S' W':=by
 have hX:∀b,a9j E b→w.heap.size≤b∧b≠D:=fun b hb=>by cases hb;exact⟨h.te.le,fun e=>h.dE e.symm⟩
 exact⟨⟨h.m7.td.ev he hX,h.m7.ob.ev he h.m7.nO h.oE,he.not h.m7.ob.lt h.m7.nO,h.m7.lO,h.m7.dO,h.m7.bel.wide he (fun b hb=>(hX b hb).1)⟩,ht,h.dE,h.oE⟩
theorem M8.next (h:M8 w D BO fv fs E tv ts S W)(m:Int)(hm1:1≤m)(hm2:m≤1000000) :
 Calls prog 73 #[.pointer (some ⟨D,0,none⟩),.int .i64 m] W fun e W'=>∃v,e= .returned (.int .i64 v)∧0≤v∧v<m∧M8 w D BO fv fs E tv ts S W'∧W.grownBy W' (some D)∧Ev (a9j D) S W S W':=by
 refine (h.m7.next m hm1 hm2).mono ?_;rintro e W'⟨v,rfl,h0,h1,h2,hg,he⟩;exact⟨v,rfl,h0,h1,⟨h2,h.te.ev he (fun b hb=>by cases hb;exact⟨h.m7.td.le,h.dE⟩),h.dE,h.oE⟩,hg,he⟩
theorem M8.evo (h:M8 w D BO fv fs E tv ts S W)(he:Ev noB S W S' W'):M8 w D BO fv fs E tv ts S' W':=⟨h.m7.evo he,h.te.ev he (fun _ h=>h.elim),h.dE,h.oE⟩
theorem M8.up (h:M8 w D BO fv fs E tv ts S W)(hb:Below W.heap.size W W'):M8 w D BO fv fs E tv ts S W':=h.evo (Ev.of_below h.te.tw hb)
end
theorem Ints.mono {n₀ n₁:Nat}(h:n₀≤n₁){W:World}{v:Value}{xs:List Int}:Ints n₀ W v xs→Ints n₁ W v xs
 |⟨a,c,e,f⟩=>⟨a,c,e,fun i hi=>by obtain⟨b,o,k1,k2,k3⟩:=f i hi;exact⟨b,o,k1,by omega,k3⟩⟩
def Pt2 (v:Value):Prop:=∃x y,v= .agg #[.int .i64 x,.int .i64 y]∧a0k x∧a0k y
def Six (v:Value):Prop:=∃x0 x1 x2 x3 x4 x5,v= .agg #[.int .i64 x0,.int .i64 x1,.int .i64 x2,.int .i64 x3,.int .i64 x4,.int .i64 x5]∧a0k x0∧a0k x1∧a0k x2∧a0k x3∧a0k x4∧a0k x5
def d3i (v:Value):Prop:=∃x,v= .int .i64 x∧a0k x
section
variable {w W W':World}{D BO E:Nat}{fv tv sv:Value}{fs ts ss:List Int}{S S':BS}
theorem M8.below (h:M8 w D BO fv fs E tv ts S W):Below w.heap.size w W:=h.m7.bel.below (fun _ h=>h.elim) (fun _ h=>h.elim) (yR _)
theorem M8.node (h:M8 w D BO fv fs E tv ts S W)(hs:Intz w.heap.size w sv ss)(i j:Int)(hi0:0≤i)(hi:i≤4)(hj0:0≤j)(hj:j≤4) :
 Calls prog 128 #[sv,.int .i64 i,.int .i64 j] W fun e W'=>∃v,e= .returned v∧Pt2 v∧M8 w D BO fv fs E tv ts S W'∧Ev (a9j E) S W S W':=by
 obtain⟨i,rfl⟩:∃n:Nat,i=n:=⟨i.toNat,by omega⟩;obtain⟨j,rfl⟩:∃n:Nat,j=n:=⟨j.toNat,by omega⟩;refine (c9o sv ss i j W (Ints.mono h.below.size (hs.ints.below h.below)) hs.len (by omega) (by omega)).mono ?_;rintro e W'⟨⟨x,y,rfl,fx,fy⟩,hb⟩;exact⟨_,rfl,⟨x,y,rfl,fx,fy⟩,h.up hb,Ev.of_below h.te.tw hb⟩
theorem M8.wiggle (h:M8 w D BO fv fs E tv ts S W)(ax ay bx by_:Int)(fa:a0k ax)(fb:a0k ay)(fc:a0k bx)(fd:a0k by_) :
 Calls prog 127 #[.agg #[.int .i64 ax,.int .i64 ay],.agg #[.int .i64 bx,.int .i64 by_],.pointer (some ⟨E,0,none⟩)] W fun e W'=>∃S' v,e= .returned v∧(∃n,SL S' W' 26 v n∧n≤6)∧M8 w D BO fv fs E tv ts S' W'∧Ev (a9j E) S W S' W':=by
 refine (c2j _ E tv ts S W h.te ax ay bx by_ fa fb fc fd).mono ?_;rintro e W'⟨S',v,n,rfl,h1,h2,h3,h4⟩;exact⟨S',v,rfl,⟨n,h1,h2⟩,h.then_ h3 h4,h4⟩
theorem M8.cell (h:M8 w D BO fv fs E tv ts S W)(a0 a1 a2 a3 a4 a5 cw ch i j:Int)(f0:a0k a0)(f1:a0k a1)(f2:a0k a2)(f3:a0k a3)(f4:a0k a4)(f5:a0k a5)(hw:cw≤3)(hh:ch≤2) :
 Calls prog 129 #[.agg #[.int .i64 a0,.int .i64 a1,.int .i64 a2,.int .i64 a3,.int .i64 a4,.int .i64 a5],.int .i64 cw,.int .i64 ch,.int .i64 i,.int .i64 j] W fun e W'=>∃v,e= .returned v∧d3i v∧M8 w D BO fv fs E tv ts S W'∧Ev (a9j E) S W S W':=by
 refine (c9p a0 a1 a2 a3 a4 a5 cw ch i j W f0 f1 f2 f3 f4 f5 hw hh).mono ?_;rintro e W'⟨⟨x,rfl,fx⟩,hb⟩;exact⟨_,rfl,⟨x,rfl,fx⟩,h.up hb,Ev.of_below h.te.tw hb⟩
theorem M8.add (h:M8 w D BO fv fs E tv ts S W)(ev:Value)(m:Nat)(hse:SL S W 206 ev m)(hm:m≤100)(lv:Value)(n:Nat)(hsl:SL S W 26 lv n)(hn:n≤100)(l r:Int)(fl:a0k l)(fr:a0k r) :
 Calls prog 126 #[ev,lv,.int .i64 l,.int .i64 r,.pointer (some ⟨E,0,none⟩)] W fun e W'=>∃S' v,e= .returned v∧(∃m',SL S' W' 206 v m'∧m'≤m+1)∧M8 w D BO fv fs E tv ts S' W'∧Ev (a9j E) S W S' W':=by
 refine (b4s _ E tv ts S W h.te ev m hse hm lv n hsl hn l r fl fr).mono ?_;rintro e W'⟨S',v,rfl,h1,h3,h4⟩;exact⟨S',v,rfl,h1,h.then_ h3 h4,h4⟩
theorem M8.island (h:M8 w D BO fv fs E tv ts S W)(ev:Value)(m:Nat)(hse:SL S W 206 ev m)(hm:m≤99)(x y a:Int)(fx:a0k x)(fy:a0k y)(fa:a0k a) :
 Calls prog 130 #[ev,.agg #[.int .i64 x,.int .i64 y],.int .i64 a,.pointer (some ⟨E,0,none⟩)] W fun e W'=>∃S' v,e= .returned v∧(∃m',SL S' W' 206 v m'∧m'≤m+1)∧M8 w D BO fv fs E tv ts S' W'∧Ev (a9j E) S W S' W':=by
 refine (c2k _ E tv ts S W h.te ev m hse hm x y a fx fy fa).mono ?_;rintro e W'⟨S',v,rfl,h1,h3,h4⟩;exact⟨S',v,rfl,h1,h.then_ h3 h4,h4⟩
theorem M7.third (h:M7 w D BO fv fs noB W)(ht:Intz w.heap.size w tv ts):M8 w D BO fv fs W.heap.size tv ts noB (W.alloc (.cells #[tv,.int .i64 0] 137)):=by
 have hb:Below W.heap.size W (W.alloc (.cells #[tv,.int .i64 0] 137)):=(zR _ _).alloc (yR _) _;have hB:Below w.heap.size w (W.alloc (.cells #[tv,.int .i64 0] 137)):=(h.bel.below (fun _ h=>h.elim) (fun _ h=>h.elim) (yR _)).trans (hb.mono h.bel.size);have hDl:=h.td.lt;have hOl:=h.ob.lt;exact⟨h.up hb,⟨TW.none _,⟨0,Nat.zero_le _,Blk.new _ _ _⟩,ht.ints.below hB,h.bel.size,ht.len,fun _ h=>h.elim,fun h=>h⟩,by omega,by omega⟩
end
end
end Go.Proofs.YtfocdbjceedagaaGreatDoor
