/-
  Parts.
-/
import Derived.Test.YtfocdbjceedagaaGreatDoorCaj
set_option linter.unusedVariables false
set_option linter.unusedSimpArgs false
set_option maxHeartbeats 8000000
set_option maxRecDepth 100000
namespace Go.Proofs.YtfocdbjceedagaaGreatDoor
open Tryz
section
open Go.RowKit Go.Shelf
variable{ad ax ay bd bx by_:Int}{P Q b cap i k n off:Nat}{v:Vu}{w w':Wd}
theorem run_build_rise (x0 x1 x2 x3 x4 x5 x6:Int)(W:Wd):(Instr.build 251 #[(0,.agg #[.int .i64 x0,.int .i64 x1,.int .i64 x2]),(1,.agg #[.int .i64 x3,.int .i64 x4,.int .i64 x5]),(2,.int .i64 x6)]).run prog W= .ok (.agg (a4h x0 x1 x2 x3 x4 x5 x6)) W:=by kernel_rfl
attribute [-go_sem] Instr.build
attribute [local go_sem] run_build_rise
theorem PQ.best2 {W W':Wd}{B3 B9:Nat}{px py:Int}(h:PQ w B3 px py B9 W){y0 y1 y2 y3 y4 y5 y6:Int}(k:Blk W' B9 (a4h y0 y1 y2 y3 y4 y5 y6) 251)(hg:W.grownBy W' (some B9))(f1:fits y1)(f2:fits y2):PQ w B3 px py B9 W' :=
 ⟨⟨h.pp.bel.trans (Below.of_grown hg h.pp.bel.size (λr e=>by cases e;exact h.l9)),h.pp.p.kept hg (λe=>h.d (Option.some.inj e).symm)⟩,⟨y0,y1,y2,y3,y4,y5,y6,k,f1,f2⟩,h.l9,h.d⟩
def e0m (e:Ending):Prop:=∃(x:Int) (b:Bool),e= .returned (.tuple #[.int .i64 x,.bool b])
def FAa (wr:Wd)(P Q b off n cap k:Nat)(ax ay ad bx by_ bd r:Int)(i:Nat)(v:Vu)(w:Wd):Prop :=
 match i with
 |0=>v= .agg #[.int .i64 ax,.int .i64 ay,.int .i64 ad]
 |1=>v= .agg #[.int .i64 bx,.int .i64 by_,.int .i64 bd]
 |2=>v= .slice (some ⟨b,off,none⟩) n cap
 |3=>v= .int .i64 (k:Nat)
 |4=>v= .pointer (some ⟨b,off+k*4,none⟩)
 |5=>v= .pointer (some ⟨b,off+k*4+3,none⟩)
 |6=>v= .int .i64 r
 |7=>v= .agg (a4h ax ay ad bx by_ bd r)
 |8=>∃B,v= .pointer (some ⟨B,0,none⟩)/\wr.heap.size<=B/\Blk w B (a4h 0 0 0 0 0 0 0) 251
 |_=>False
theorem FAa.kept {wr:Wd}{r:Int}(h:FAa wr P Q b off n cap k ax ay ad bx by_ bd r i v w)(hg:Below w.heap.size w w'):FAa wr P Q b off n cap k ax ay ad bx by_ bd r i v w':=by
 unfold FAa at *;exact yjy
def FAb (P Q b off n cap k:Nat)(ax ay ad bx by_ bd l:Int)(i:Nat)(v:Vu)(w:Wd):Prop :=
 match i with
 |0=>v= .agg #[.int .i64 bx,.int .i64 by_,.int .i64 bd]
 |1=>v= .agg #[.int .i64 ax,.int .i64 ay,.int .i64 ad]
 |2=>v= .slice (some ⟨b,off,none⟩) n cap
 |3=>v= .int .i64 (k:Nat)
 |4=>v= .pointer (some ⟨b,off+k*4,none⟩)
 |5=>v= .pointer (some ⟨b,off+k*4+2,none⟩)
 |6=>v= .int .i64 l
 |7=>v= .agg (a4h bx by_ bd ax ay ad l)
 |_=>False
theorem FAb.kept {l:Int}(h:FAb P Q b off n cap k ax ay ad bx by_ bd l i v w)(hg:Below w.heap.size w w'):FAb P Q b off n cap k ax ay ad bx by_ bd l i v w':=by
 unfold FAb at *;split at h
 all_goals first|exact h
theorem b9y (S:BS)(w:Wd)(hT:TW S w)(tv:Vu)(n:Nat)(au:SL S w 249 tv n)(hn:n<=100)(px py:Int)(HV:fits px)(FF:fits py):
 Calls prog 165 #[tv,.agg #[.int .i64 px,.int .i64 py]] w λe w'=>e0m e/\Below w.heap.size w w':=by
 obtain⟨ta,cap,rfl,PG⟩:=au.form;have CC:(n:Int)<=100:=oM;go_enter func165,ntmps165;go_upto_if 19 with(first
  |(go_at_call 183;refine(a7i _ _ _).mono ?_;rintro e W1⟨rfl,aw⟩)
  |(go_at_call 182;refine(b1e _ _ _ _).mono ?_;rintro e W2⟨⟨bo,rfl⟩,az⟩))
 have dz:PP w w.heap.size px py (w.alloc (.cells #[.int .i64 px,.int .i64 py] 26)):=⟨zC,Blk.new _ _ _⟩;have pG:PP w w.heap.size px py W2:=(dz.up aw).up az;have HY:w.heap.size<=w.heap.size:=yR _;obtain⟨B3,aN⟩:=zE w.heap.size;have hp:PP w B3 px py W2:=aN▸pG;have kg:w.heap.size<=B3:=oM;rw[aN];clear dz pG aw az aN HY
 cases bo
 ·go_wp2_with fail
  go_ret2;exact⟨⟨_,_,rfl⟩,hp.bel⟩
 ·simp only[Bool.not_true]
  go_wp2_with fail;go_loopw [6] (λkk wr=>∃k:Nat,k<=n/\kk= .int .i64 (k:Nat)/\PP w B3 px py wr) (λkk _=>n-(intOf kk).toNat)
  case atStart=>exact⟨0,Nat.zero_le _,rfl,hp⟩
  case round =>
   clear hp;obtain⟨k,hk,rfl,hp⟩:=hrel;by_cases ag:k<n
   ·have aA:(k:Int)<(n:Int):=oM
    as_aux_lemma =>
     obtain⟨b,off,aI,bL,-,-⟩:=au.some_ oM;simp only[Value.slice.injEq,true_and]at bL;obtain⟨rfl,rfl⟩:=bL;obtain⟨id,l,r,lv,m,c0,c1,c2,c3,f0,f2,f3,aJ,hm⟩:=SL.trace hT au ag;obtain⟨la,ar,rfl,-⟩:=aJ.form;go_wp2_with fail;go_loopw [7] (λii wr=>∃i:Nat,i<=m/\ii= .int .i64 (i:Nat)/\PP w B3 px py wr) (λii _=>m-(intOf ii).toNat)
     case atStart=>exact⟨0,Nat.zero_le _,rfl,hp⟩
     case round =>
      clear hp;obtain⟨i,hi,rfl,hp⟩:=hrel;have o1:=hp.old c1;by_cases Ax:i<m
      ·have xP:(i:Int)<(m:Int):=oM
       obtain⟨pb,po,qc,iJ,-,-⟩:=aJ.some_ oM;simp only[Value.slice.injEq,true_and]at iJ;obtain⟨rfl,rfl⟩:=iJ;obtain⟨x,y,d,d0,d1,d2,-,-,-⟩:=SL.spot hT aJ Ax;have p0:=hp.old d0;have p1:=hp.old d1;have p2:=hp.old d2;go_upto_if 45 with(first
        |(go_at_call 182;refine(b1e _ _ _ _).mono ?_;rintro e W3⟨⟨bo,rfl⟩,aV⟩))
       have ph:=hp.up aV;clear hp aV p0 p1 p2 o1
       cases bo
       ·go_wp2_with fail
        go_ret2;exact⟨⟨_,_,rfl⟩,ph.bel⟩
       ·go_wp2_with fail
        go_roundw
        case rel=>exact⟨i+1,oM,by go_num,ph⟩
        case measure=>simp[intOf];omega
      ·obtain rfl:i=m:=oM
       have aY:¬(i:Int)<(i:Int):=oM;go_wp2_with fail;go_roundw
       case rel=>exact⟨k+1,oM,by go_num,hp⟩
       case measure=>simp[intOf];omega
   ·have aY:¬(k:Int)<(n:Int):=oM
    go_wp2_with fail;have tO:PQ w B3 px py wr.heap.size (wr.alloc (.cells (a4h 0 0 0 0 0 0 0) 251)):=by
     have ag:=hp.p.lt;exact⟨hp.up ((zR _ _).alloc (yR _) _),⟨0,0,0,0,0,0,0,Blk.new _ _ _,⟨jM,jM⟩,⟨jM,jM⟩⟩,hp.bel.size,oM⟩
    obtain⟨B9,cn⟩:=zE wr.heap.size;obtain⟨W4,cQ⟩:=zE (wr.alloc (.cells (a4h 0 0 0 0 0 0 0) 251));rw[cn,cQ]at tO;rw[cn,cQ];clear cn cQ hp aY ag hk;go_loopw [8,10] (λfv kk wr=>∃(k:Nat) (fb:Bool),k<=n/\kk= .int .i64 (k:Nat)/\fv= .bool fb/\PQ w B3 px py B9 wr) (λ_ kk _=>n-(intOf kk).toNat)
    case atStart=>exact⟨0,false,Nat.zero_le _,rfl,rfl,tO⟩
    case round =>
     clear tO;obtain⟨k,fb,hk,rfl,rfl,hq⟩:=hrel;by_cases ag:k<n
     ·have aA:(k:Int)<(n:Int):=oM
      as_aux_lemma =>
       obtain⟨b,off,aI,bL,-,-⟩:=au.some_ oM;simp only[Value.slice.injEq,true_and]at bL;obtain⟨rfl,rfl⟩:=bL;obtain⟨id,l,r,lv,m,c0,c1,c2,c3,f0,f2,f3,aJ,hm⟩:=SL.trace hT au ag;obtain⟨la,ar,rfl,-⟩:=aJ.form;go_wp2_with fail;go_loopw [8,11] (λfv ii wr=>∃(i:Nat) (fb:Bool),i<=m/\ii= .int .i64 (i:Nat)/\fv= .bool fb/\PQ w B3 px py B9 wr) (λ_ ii _=>m-(intOf ii).toNat)
       case atStart=>exact⟨0,fb,Nat.zero_le _,rfl,rfl,hq⟩
       case round =>
        clear hq;obtain⟨i,fb,hi,rfl,rfl,hq⟩:=hrel;have o1:=hq.pp.old c1;by_cases Ax:i+1<m
        ·have PH:(i:Int)<(m:Int):=oM
         obtain⟨pb,po,qc,iJ,-,-⟩:=aJ.some_ oM;simp only[Value.slice.injEq,true_and]at iJ;obtain⟨rfl,rfl⟩:=iJ;obtain⟨ax,ay,ad,d0,d1,d2,PJ,HZ,H0⟩:=SL.spot hT aJ (k:=i) oM;obtain⟨i1,el⟩:=zE (i+1);have e1:(i:Int)+1=(i1:Int):=oM;have jt:(i1:Int)<(m:Int):=oM;obtain⟨bx,by_,bd,d3,d4,d5,PK,H2,H3⟩:=SL.spot hT aJ (k:=i1) oM;have p0:=hq.pp.old d0;have p1:=hq.pp.old d1;have p2:=hq.pp.old d2;have p3:=hq.pp.old d3;have p4:=hq.pp.old d4;have p5:=hq.pp.old d5;replace el:=Lib.hid el;have eh:Below wr.heap.size wr (wr.alloc (.cells #[.int .i64 ax,.int .i64 ay,.int .i64 ad] 245)):=(zR _ _).alloc (yR _) _;have kP:=Blk.new wr #[.int .i64 ax,.int .i64 ay,.int .i64 ad] 245;have L8:=(eh.cell (World.block_lt_of_cell? _ _ o1)).trans o1;have L9:=(eh.cell (World.block_lt_of_cell? _ _ p3)).trans p3;have Ma:=(eh.cell (World.block_lt_of_cell? _ _ p4)).trans p4;have Mb:=(eh.cell (World.block_lt_of_cell? _ _ p5)).trans p5;have FG:(wr.alloc (.cells #[.int .i64 ax,.int .i64 ay,.int .i64 ad] 245)).heap.size=wr.heap.size+1:=by simp
         clear p3 p4 p5;go_upto_region 20 with fail;obtain⟨WA,tR⟩:=zE (wr.alloc (.cells #[.int .i64 ax,.int .i64 ay,.int .i64 ad] 245));rw[tR]at eh kP L8 L9 Ma Mb FG;rw[tR];obtain⟨P,hP⟩:=zE wr.heap.size;have fR:wr.heap.size<=P:=oM;rw[hP]at kP FG;rw[hP];clear tR p0 p1 p2 o1;have Ae:Below WA.heap.size WA (WA.alloc (.cells #[.int .i64 bx,.int .i64 by_,.int .i64 bd] 245)):=(zR _ _).alloc (yR _) _;have kQ:=Blk.new WA #[.int .i64 bx,.int .i64 by_,.int .i64 bd] 245;have kP:=kP.alloc (.cells #[.int .i64 bx,.int .i64 by_,.int .i64 bd] 245);go_upto_region 21 with fail;obtain⟨W5,iq⟩:=zE (WA.alloc (.cells #[.int .i64 bx,.int .i64 by_,.int .i64 bd] 245));rw[iq]at Ae kQ kP;rw[iq];obtain⟨Q,hQ⟩:=zE (P+1);rw[FG,hQ]at kQ;rw[hQ];clear iq L8 L9 Ma Mb;have aZ:Below wr.heap.size wr W5:=eh.trans (Ae.mono eh.size);have C7:=hq.up aZ;have o2:=hq.pp.old c2;have o3:=hq.pp.old c3;have hA5:AtW wr P Q b off k ax ay ad bx by_ bd l r W5:=⟨aZ,kP,kQ,(aZ.cell (World.block_lt_of_cell? _ _ o2)).trans o2,(aZ.cell (World.block_lt_of_cell? _ _ o3)).trans o3⟩;clear eh Ae FG hQ hP o2 o3 hq e1 jt el d0 d1 d2 d3 d4 d5;obtain⟨a0,a1,a2⟩:=st3 kP;obtain⟨b0,b1,b2⟩:=st3 kQ;obtain⟨q0,q1,-,-⟩:=pt2 C7.pp.p;go_upto_if 83 with(first
          |(go_at_call 184;refine(d8n _ _ _ _ _ _ _ _ _ PJ HZ H0 PK H2 H3 HV FF).mono ?_;rintro e W6⟨⟨bo,rfl⟩,iT⟩))
         have FH:=C7.up iT;have hA6:=hA5.up iT;clear C7 hA5 kP kQ a0 a1 a2 b0 b1 b2 q0 q1 iT
         cases bo
         case true =>
          go_wp2_with fail;go_ret2;exact⟨⟨_,_,rfl⟩,FH.pp.bel⟩
         case false =>
          obtain⟨a0,a1,a2⟩:=st3 hA6.p;obtain⟨b0,b1,b2⟩:=st3 hA6.q;obtain⟨q0,q1,-,-⟩:=pt2 FH.pp.p;go_upto_region 24 with(first
           |(go_at_call 185;refine(c2y _ _ _ _ _ _ _ _ _ HZ H0 H2 H3 FF).mono ?_;rintro e W7⟨⟨x,rfl⟩,eV⟩))
          have Ay:=FH.up eV;have hA7:=hA6.up eV;clear FH hA6 a0 a1 a2 b0 b1 b2 q0 q1 eV;have hA8:AtW W7 P Q b off k ax ay ad bx by_ bd l r W7:=⟨zR _ _,hA7.p,hA7.q,hA7.c2,hA7.c3⟩;clear hA7;refine Go.wp_region_rel 9 zM zM (λ_ W=>AtW W7 P Q b off k ax ay ad bx by_ bd l r W) (λw w'=>Below w.heap.size w w') (FAa W7 P Q b off n cap k ax ay ad bx by_ bd r) (λ_ _ _ _ h g=>h.kept g) (hA8.up (zR _ _).drew) ?_ ?_
          ·clear au aJ hT c0 c1 c2 c3 hA8 Ay
           intro j o hj ho c bb W hc hM hA hD K hK;match j,hj,ho with
           |0,_,ho =>
            exact ycp
           |1,_,ho =>
            exact yco
           |2,_,ho =>
            exact yfd
           |3,_,ho =>
            exact yct
           |4,_,ho =>
            cases ho;have f90:=a0a (v:= .slice (some ⟨b,off,none⟩) n cap) (a0b hD 2 90 zM rfl rfl);have f91:=a0a (v:= .int .i64 (k:Nat)) (a0b hD 3 91 zM rfl rfl);exact ycu
           |5,_,ho =>
            cases ho;have f92:=a0a (v:= .pointer (some ⟨b,off+k*4,none⟩)) (a0b hD 4 92 zM rfl rfl);exact ykn
           |6,_,ho =>
            cases ho;have f93:=a0a (v:= .pointer (some ⟨b,off+k*4+3,none⟩)) (a0b hD 5 93 zM rfl rfl);have z0:W.cell? ⟨b,off+k*4+3,none⟩=some (.int .i64 r):=hM.c3;go_simp;exact hK (.int .i64 r) W rfl (zR _ _) hM
           |7,_,ho =>
            cases ho;have f88:=a0a (v:= .agg #[.int .i64 ax,.int .i64 ay,.int .i64 ad]) (a0b hD 0 88 zM rfl rfl);have f89:=a0a (v:= .agg #[.int .i64 bx,.int .i64 by_,.int .i64 bd]) (a0b hD 1 89 zM rfl rfl);have f94:=a0a (v:= .int .i64 r) (a0b hD 6 94 zM rfl rfl);go_simp;exact hK (.agg (a4h ax ay ad bx by_ bd r)) W rfl (zR _ _) hM
           |8,_,ho =>
            exact yfr
           |i+9,hi,_=>exact absurd hi oM
          ·intro bb W hM hA ah
           have oF:bb.eval (.tmp 95)= .agg (a4h ax ay ad bx by_ bd r):=ah 7 oM _ _ rfl rfl;obtain⟨BL,jc,nz,Mc⟩:=(show ∃B,bb.eval (.tmp 15)= .pointer (some ⟨B,0,none⟩)/\W7.heap.size<=B/\Blk W B (a4h 0 0 0 0 0 0 0) 251 from ah 8 oM _ _ rfl rfl);have aC:=hA.frame (rT 15 (rF 1 (rT 72 (rF 8 (rT 24 ([])))))) _ rfl zM;clear ah hA;obtain⟨f,hf⟩:=zDt bb;have Md:f 95= .agg (a4h ax ay ad bx by_ bd r):=by rw[<-hf,<-oF];rfl
           have g15:f 15= .pointer (some ⟨BL,0,none⟩):=by rw[<-hf,<-jc];rfl
           rw[hf]at aC;clear hf oF jc;subst aC;simp only[rT,rF,a2d,Md,g15,a4h,Nat.reduceAdd];clear Md g15;simp only[zU];refine a3a qM _ _ _ qM BL (a4h ax ay ad bx by_ bd r) qM qM _ _ Mc qM qM (by simp[a4h,Value.oneCell']) ?_;intro W8 pX Me;have vw:Below W7.heap.size W7 W8:=hM.bel.trans (Below.of_grown Me hM.bel.size (λr e=>by cases e;exact nz));clear hM Mc Me;go_upto_region 25 with fail;by_cases hx:x<0
           ·have hA9:=hA8.up vw
            have hA10:AtW W8 P Q b off k ax ay ad bx by_ bd l r W8:=⟨zR _ _,hA9.p,hA9.q,hA9.c2,hA9.c3⟩;clear hA9 hA8;go_upto_region 26 with fail;refine Go.wp_region_rel 8 zM zM (λ_ W=>AtW W8 P Q b off k ax ay ad bx by_ bd l r W) (λw w'=>Below w.heap.size w w') (FAb P Q b off n cap k ax ay ad bx by_ bd l) (λ_ _ _ _ h g=>h.kept g) (hA10.up (zR _ _).drew) ?_ ?_
            ·clear au aJ hT c0 c1 c2 c3 hA10 Ay
             intro j o hj ho c bb W hc hM hA hD K hK;match j,hj,ho with
             |0,_,ho =>
              exact yco
             |1,_,ho =>
              exact ycp
             |2,_,ho =>
              exact yfd
             |3,_,ho =>
              exact yct
             |4,_,ho =>
              cases ho;have f100:=a0a (v:= .slice (some ⟨b,off,none⟩) n cap) (a0b hD 2 100 zM rfl rfl);have f101:=a0a (v:= .int .i64 (k:Nat)) (a0b hD 3 101 zM rfl rfl);exact ycu
             |5,_,ho =>
              cases ho;have f102:=a0a (v:= .pointer (some ⟨b,off+k*4,none⟩)) (a0b hD 4 102 zM rfl rfl);exact ykk
             |6,_,ho =>
              cases ho;have f103:=a0a (v:= .pointer (some ⟨b,off+k*4+2,none⟩)) (a0b hD 5 103 zM rfl rfl);have z0:W.cell? ⟨b,off+k*4+2,none⟩=some (.int .i64 l):=hM.c2;go_simp;exact hK (.int .i64 l) W rfl (zR _ _) hM
             |7,_,ho =>
              cases ho;have f98:=a0a (v:= .agg #[.int .i64 bx,.int .i64 by_,.int .i64 bd]) (a0b hD 0 98 zM rfl rfl);have f99:=a0a (v:= .agg #[.int .i64 ax,.int .i64 ay,.int .i64 ad]) (a0b hD 1 99 zM rfl rfl);have f104:=a0a (v:= .int .i64 l) (a0b hD 6 104 zM rfl rfl);go_simp;exact hK (.agg (a4h bx by_ bd ax ay ad l)) W rfl (zR _ _) hM
             |i+8,hi,_=>exact absurd hi oM
            ·intro bb W hM hA ah
             have oF:bb.eval (.tmp 105)= .agg (a4h bx by_ bd ax ay ad l):=ah 7 oM _ _ rfl rfl;have aC:=hA.frame (rT 98 (rF 8 (rT 14 ([])))) _ rfl zM;clear ah hA;obtain⟨f,hf⟩:=zDt bb;have C8:f 105= .agg (a4h bx by_ bd ax ay ad l):=by rw[<-hf,<-oF];rfl
             rw[hf]at aC;clear hf oF;subst aC;simp only[rT,rF,a2d,C8,a4h,Nat.reduceAdd];clear C8;simp only[zU];have pX:=pX.below hM.bel pX.lt;refine a3a qM _ _ _ qM BL (a4h bx by_ bd ax ay ad l) qM qM _ _ pX qM qM (by simp[a4h,Value.oneCell']) ?_;clear pX;intro W9 pX bD;have hq:=Ay.up ((vw.trans (hM.bel.mono vw.size)).trans (Below.of_grown bD (vw.trans (hM.bel.mono vw.size)).size (λr e=>by cases e;exact nz)));clear hM Ay vw hx bD;go_upto_region 27 with fail;have g1:=H2;have g2:=H3;exact yak
           ·have hq:=Ay.up vw
            clear Ay vw hA8;have g1:=HZ;have g2:=H0;go_upto_region 27 with fail;clear hx;exact yak
        ·have aY:¬(i:Int)+1<(m:Int):=oM
         go_wp2_with fail;go_roundw
         case rel=>exact⟨k+1,fb,oM,by go_num,rfl,hq⟩
         case measure=>simp[intOf];omega
     ·have aY:¬(k:Int)<(n:Int):=oM
      obtain⟨z0,z1,z2,z3,z4,z5,z6,k9,Ab,Lk⟩:=hq.q;obtain⟨⟨s0,s1,s2,s3,s4,s5,s6⟩,-⟩:=d0o k9;go_wp2_with fail;go_ret2;exact⟨⟨_,_,rfl⟩,hq.pp.bel⟩
end
section
open Go.RowKit Go.Shelf
structure Intz (n₀:Nat)(W:Wd)(v:Vu)(xs:List Int):Prop where
 ints:Ints n₀ W v xs
 len:b6w xs.length
theorem Intz.nil (n₀:Nat)(W:Wd):Intz n₀ W (.slice none 0 0) []:=⟨⟨none,0,rfl,λj hj=>by simp at hj⟩,Nat.zero_le _⟩
def Mat (n₀:Nat)(W:Wd)(lv:Vu)(rows:List (Value×List Int)):Prop :=
 ∃a cap,lv= .slice a rows.length cap/\rows.length<=cap/\∀j,(h:j<rows.length)->∃b off,a=some ⟨b,off,none⟩/\b<n₀/\W.cell? ⟨b,off+j,none⟩=some rows[j].1/\Intz n₀ W rows[j].1 rows[j].2
theorem Intz.below {n₀:Nat}{A B:Wd}(h:Below n₀ A B){v:Vu}{xs:List Int}(k:Intz n₀ A v xs):Intz n₀ B v xs:=⟨k.ints.below h,k.len⟩
theorem Mat.below {n₀:Nat}{A B:Wd}(h:Below n₀ A B){lv:Vu}{rows:List (Value×List Int)}:Mat n₀ A lv rows->Mat n₀ B lv rows
 |⟨a,cap,e,hc,f⟩=>⟨a,cap,e,hc,λj hj=>by
  obtain⟨b,off,h1,h2,h3,h4⟩:=f j hj;exact⟨b,off,h1,h2,(h.cell (p:=⟨b,off+j,none⟩) h2).trans h3,h4.below h⟩⟩
theorem Mat.mono {n₀ dQ:Nat}(h:n₀<=dQ){W:Wd}{lv:Vu}{rows:List (Value×List Int)}:Mat n₀ W lv rows->Mat dQ W lv rows
 |⟨a,cap,e,hc,f⟩=>⟨a,cap,e,hc,λj hj=>by
  obtain⟨b,off,h1,h2,h3,⟨a2,c2,e2,f2⟩,h5⟩:=f j hj;exact⟨b,off,h1,oM,h3,⟨a2,c2,e2,λi hi=>by obtain⟨b',o',k1,k2,k3⟩:=f2 i hi;exact⟨b',o',k1,oM,k3⟩⟩,h5⟩⟩
structure Same1 (w w2:Wd):Prop where
 eq:w=w2
def OB6 (W:Wd)(B:Nat):Prop:=∃c,Blk W B c 194/\c.size=6/\∀u∈c.toList,∃x,u= .int .i64 x/\fits x
theorem OB6.kept {W W':Wd}{B:Nat}{row:Option Nat}(h:OB6 W B)(hg:W.grownBy W' row)(hr:row≠some B):OB6 W' B:=by
 obtain⟨c,h1,h2,h3⟩:=h;exact⟨c,h1.kept hg hr,h2,h3⟩
theorem OB6.ev {X S S':BS}{W W':Wd}{B:Nat}(h:OB6 W B)(he:Ev X S W S' W')(hS:¬S B)(hX:¬X B):OB6 W' B:=by
 obtain⟨c,h1,h2,h3⟩:=h;exact⟨c,he.blk h1 hS hX,h2,h3⟩
theorem OB6.lt {W:Wd}{B:Nat}(h:OB6 W B):B<W.heap.size:=by obtain⟨c,h1,-⟩:=h;exact h1.lt
theorem OB6.at_ {W:Wd}{B:Nat}(h:OB6 W B){q:Nat}(hq:q<6):∃x,W.cell? ⟨B,q,none⟩=some (.int .i64 x)/\fits x:=by
 obtain⟨c,h1,h2,h3⟩:=h;obtain⟨x,hx,fx⟩:=h3 (c[q]'(by omega)) vM;exact⟨x,by rw[h1.cell,Array.getElem?_eq_getElem oM,hx],fx⟩
theorem OB6.set {W:Wd}{B:Nat}(h:OB6 W B)(q:Nat){x:Int}(fx:fits x):OB6 (W.setCell ⟨B,q,none⟩ (.int .i64 x)) B:=by
 obtain⟨c,h1,h2,h3⟩:=h;refine⟨_,h1.set q _,by simpa using h2,λu hu=> ?_⟩;rw[Array.toList_setIfInBounds]at hu;rcases List.mem_or_eq_of_mem_set hu with hu|rfl
 ·exact h3 u hu
 ·exact⟨x,rfl,fx⟩
theorem OB6.frozen {W:Wd}{B:Nat}(h:OB6 W B)(q:Nat):W.frozen? ⟨B,q,none⟩=false:=by obtain⟨c,h1,-⟩:=h;exact h1.frozen q
theorem Ev.wide {X Y S0 S S':BS}{W0 W W':Wd}(h:Ev X S0 W0 S W)(he:Ev Y S W S' W')(hY:∀b,Y b->W0.heap.size<=b):Ev X S0 W0 S' W' :=
 ⟨λb hb=>he.sub b (h.sub b hb),λb hb=>by
  rcases he.new b hb with h1|h1
  ·exact h.new b h1
  ·exact .inr (Nat.le_trans h.size h1),he.os.trans h.os,he.tape.trans h.tape,he.output.trans h.output,Nat.le_trans h.size he.size,λb hb hn hx=>by
  have eP:¬S b:=λh1=>by
   rcases h.new b h1 with h2|h2
   ·exact hn h2
   ·omega
  exact(he.rest b (Nat.lt_of_lt_of_le hb h.size) eP (λhy=>by have:=hY b hy;omega)).trans (h.rest b hb hn hx),h.shape.trans he.shape h.sub,he.ok⟩
structure M7 (w:Wd)(D BO:Nat)(fv:Vu)(fs:List Int)(S:BS)(W:Wd):Prop where
 td:TD S w.heap.size D fv fs W
 ob:OB6 W BO
 nO:¬S BO
 lO:w.heap.size<=BO
 dO:BO≠D
 bel:Ev noB noB w S W
section
variable {w W W':Wd}{D BO:Nat}{fv:Vu}{fs:List Int}{S S':BS}
theorem M7.next (h:M7 w D BO fv fs S W)(m:Int)(cV:1<=m)(fO:m<=1000000) :
 Calls prog 73 #[.pointer (some ⟨D,0,none⟩),.int .i64 m] W λe W'=>∃v,e= .returned (.int .i64 v)/\0<=v/\v<m/\M7 w D BO fv fs S W'/\W.grownBy W' (some D)/\Ev (b1b D) S W S W':=by
 refine(h.td.call m cV oM).mono ?_;rintro e W'⟨v,rfl,h0,h1,h2,hg,he⟩;exact⟨v,rfl,h0,h1,⟨h2,h.ob.kept hg (λe=>h.dO (Option.some.inj e).symm),h.nO,h.lO,h.dO,h.bel.wide he (λb hb=>by cases hb;exact h.td.le)⟩,hg,he⟩
theorem M7.evo (h:M7 w D BO fv fs S W)(he:Ev noB S W S' W'):M7 w D BO fv fs S' W' :=
 ⟨h.td.ev he (λ_ h=>h.elim),h.ob.ev he h.nO (λh=>h),he.not h.ob.lt h.nO,h.lO,h.dO,h.bel.trans he⟩
theorem M7.up (h:M7 w D BO fv fs S W)(hb:Below W.heap.size W W'):M7 w D BO fv fs S W':=h.evo (Ev.of_below h.td.tw hb)
theorem TD.own {S:BS}{n₀ D:Nat}{sv:Vu}{xs:List Int}{W:Wd}(h:TD S n₀ D sv xs W){B:Nat}(hB:n₀<=B)(hD:B≠D)(hS:¬S B)(i:Nat)(v:Vu):TD S n₀ D sv xs (W.setCell ⟨B,i,none⟩ v):=by
 obtain⟨j,hj,hb⟩:=h.box;have hg:=a0z W B i v;have ag:=h.lt;refine⟨h.tw.of_same (λb hb=>hg.block b (h.tw.lt hb) (λe=>hS (by cases e;exact hb))),⟨j,hj,hb.kept hg (λe=>hD (Option.some.inj e))⟩,h.ints.below (Below.of_grown hg (by have:=h.le;omega) (λq e=>by cases e;exact hB)),h.le,h.len,h.low,h.not⟩
theorem M7.set (h:M7 w D BO fv fs S W)(q:Nat){x:Int}(fx:fits x):M7 w D BO fv fs S (W.setCell ⟨BO,q,none⟩ (.int .i64 x)) :=
 ⟨h.td.own h.lO h.dO h.nO q _,h.ob.set q fx,h.nO,h.lO,h.dO,h.bel.own (a0z W BO q _) (λr e=>by cases e;exact⟨h.nO,h.lO⟩)⟩
end
structure M8 (w:Wd)(D BO:Nat)(fv:Vu)(fs:List Int)(E:Nat)(tv:Vu)(ts:List Int)(S:BS)(W:Wd):Prop where
 m7:M7 w D BO fv fs S W
 te:TD S w.heap.size E tv ts W
 dE:D≠E
 oE:BO≠E
section
variable {w W W':Wd}{D BO E:Nat}{fv tv:Vu}{fs ts:List Int}{S S':BS}
theorem M8.then_ (h:M8 w D BO fv fs E tv ts S W)(ht:TD S' w.heap.size E tv ts W')(he:Ev (b1b E) S W S' W'):M8 w D BO fv fs E tv ts S' W':=by
 have hX:∀b,b1b E b->w.heap.size<=b/\b≠D:=λb hb=>by cases hb;exact⟨h.te.le,λe=>h.dE e.symm⟩
 exact⟨⟨h.m7.td.ev he hX,h.m7.ob.ev he h.m7.nO h.oE,he.not h.m7.ob.lt h.m7.nO,h.m7.lO,h.m7.dO,h.m7.bel.wide he (λb hb=>(hX b hb).1)⟩,ht,h.dE,h.oE⟩
theorem M8.next (h:M8 w D BO fv fs E tv ts S W)(m:Int)(cV:1<=m)(fO:m<=1000000) :
 Calls prog 73 #[.pointer (some ⟨D,0,none⟩),.int .i64 m] W λe W'=>∃v,e= .returned (.int .i64 v)/\0<=v/\v<m/\M8 w D BO fv fs E tv ts S W'/\W.grownBy W' (some D)/\Ev (b1b D) S W S W':=by
 refine(h.m7.next m cV fO).mono ?_;rintro e W'⟨v,rfl,h0,h1,h2,hg,he⟩;exact⟨v,rfl,h0,h1,⟨h2,h.te.ev he (λb hb=>by cases hb;exact⟨h.m7.td.le,h.dE⟩),h.dE,h.oE⟩,hg,he⟩
theorem M8.evo (h:M8 w D BO fv fs E tv ts S W)(he:Ev noB S W S' W'):M8 w D BO fv fs E tv ts S' W':=⟨h.m7.evo he,h.te.ev he (λ_ h=>h.elim),h.dE,h.oE⟩
theorem M8.up (h:M8 w D BO fv fs E tv ts S W)(hb:Below W.heap.size W W'):M8 w D BO fv fs E tv ts S W':=h.evo (Ev.of_below h.te.tw hb)
end
theorem Ints.mono {n₀ dQ:Nat}(h:n₀<=dQ){W:Wd}{v:Vu}{xs:List Int}:Ints n₀ W v xs->Ints dQ W v xs
 |⟨a,c,e,f⟩=>⟨a,c,e,λi hi=>by obtain⟨b,o,k1,k2,k3⟩:=f i hi;exact⟨b,o,k1,oM,k3⟩⟩
def Pt2 (v:Vu):Prop:=∃x y,v= .agg #[.int .i64 x,.int .i64 y]/\fits x/\fits y
def Six (v:Vu):Prop:=∃x0 x1 x2 x3 x4 x5,v= .agg #[.int .i64 x0,.int .i64 x1,.int .i64 x2,.int .i64 x3,.int .i64 x4,.int .i64 x5]/\fits x0/\fits x1/\fits x2/\fits x3/\fits x4/\fits x5
def e0n (v:Vu):Prop:=∃x,v= .int .i64 x/\fits x
section
variable {w W W':Wd}{D BO E:Nat}{fv tv sv:Vu}{fs ts ss:List Int}{S S':BS}
theorem M8.below (h:M8 w D BO fv fs E tv ts S W):Below w.heap.size w W:=h.m7.bel.below (λ_ h=>h.elim) (λ_ h=>h.elim) (yR _)
theorem M8.node (h:M8 w D BO fv fs E tv ts S W)(hs:Intz w.heap.size w sv ss)(i j:Int)(aT:0<=i)(hi:i<=4)(fC:0<=j)(hj:j<=4) :
 Calls prog 128 #[sv,.int .i64 i,.int .i64 j] W λe W'=>∃v,e= .returned v/\Pt2 v/\M8 w D BO fv fs E tv ts S W'/\Ev (b1b E) S W S W':=by
 obtain⟨i,rfl⟩:∃n:Nat,i=n:=⟨i.toNat,oM⟩;obtain⟨j,rfl⟩:∃n:Nat,j=n:=⟨j.toNat,oM⟩;refine(d4s sv ss i j W (Ints.mono h.below.size (hs.ints.below h.below)) hs.len oM oM).mono ?_;rintro e W'⟨⟨x,y,rfl,fx,fy⟩,hb⟩;exact⟨_,rfl,⟨x,y,rfl,fx,fy⟩,h.up hb,Ev.of_below h.te.tw hb⟩
theorem M8.wiggle (h:M8 w D BO fv fs E tv ts S W)(ax ay bx by_:Int)(fa:fits ax)(fb:fits ay)(fc:fits bx)(fd:fits by_) :
 Calls prog 127 #[.agg #[.int .i64 ax,.int .i64 ay],.agg #[.int .i64 bx,.int .i64 by_],.pointer (some ⟨E,0,none⟩)] W λe W'=>∃S' v,e= .returned v/\(∃n,SL S' W' 26 v n/\n<=6)/\M8 w D BO fv fs E tv ts S' W'/\Ev (b1b E) S W S' W':=by
 refine(c6y _ E tv ts S W h.te ax ay bx by_ fa fb fc fd).mono ?_;rintro e W'⟨S',v,n,rfl,h1,h2,h3,h4⟩;exact⟨S',v,rfl,⟨n,h1,h2⟩,h.then_ h3 h4,h4⟩
theorem M8.cell (h:M8 w D BO fv fs E tv ts S W)(a0 a1 a2 a3 a4 a5 cw ch i j:Int)(f0:fits a0)(f1:fits a1)(f2:fits a2)(f3:fits a3)(f4:fits a4)(f5:fits a5)(hw:cw<=3)(hh:ch<=2) :
 Calls prog 129 #[.agg #[.int .i64 a0,.int .i64 a1,.int .i64 a2,.int .i64 a3,.int .i64 a4,.int .i64 a5],.int .i64 cw,.int .i64 ch,.int .i64 i,.int .i64 j] W λe W'=>∃v,e= .returned v/\e0n v/\M8 w D BO fv fs E tv ts S W'/\Ev (b1b E) S W S W':=by
 refine(d4t a0 a1 a2 a3 a4 a5 cw ch i j W f0 f1 f2 f3 f4 f5 hw hh).mono ?_;rintro e W'⟨⟨x,rfl,fx⟩,hb⟩;exact⟨_,rfl,⟨x,rfl,fx⟩,h.up hb,Ev.of_below h.te.tw hb⟩
theorem M8.add (h:M8 w D BO fv fs E tv ts S W)(ev:Vu)(m:Nat)(dX:SL S W 206 ev m)(hm:m<=100)(lv:Vu)(n:Nat)(dm:SL S W 26 lv n)(hn:n<=100)(l r:Int)(fl:fits l)(fr:fits r) :
 Calls prog 126 #[ev,lv,.int .i64 l,.int .i64 r,.pointer (some ⟨E,0,none⟩)] W λe W'=>∃S' v,e= .returned v/\(∃m',SL S' W' 206 v m'/\m'<=m+1)/\M8 w D BO fv fs E tv ts S' W'/\Ev (b1b E) S W S' W':=by
 refine(b6x _ E tv ts S W h.te ev m dX hm lv n dm hn l r fl fr).mono ?_;rintro e W'⟨S',v,rfl,h1,h3,h4⟩;exact⟨S',v,rfl,h1,h.then_ h3 h4,h4⟩
theorem M8.island (h:M8 w D BO fv fs E tv ts S W)(ev:Vu)(m:Nat)(dX:SL S W 206 ev m)(hm:m<=99)(x y a:Int)(fx:fits x)(fy:fits y)(fa:fits a) :
 Calls prog 130 #[ev,.agg #[.int .i64 x,.int .i64 y],.int .i64 a,.pointer (some ⟨E,0,none⟩)] W λe W'=>∃S' v,e= .returned v/\(∃m',SL S' W' 206 v m'/\m'<=m+1)/\M8 w D BO fv fs E tv ts S' W'/\Ev (b1b E) S W S' W':=by
 refine(c6z _ E tv ts S W h.te ev m dX hm x y a fx fy fa).mono ?_;rintro e W'⟨S',v,rfl,h1,h3,h4⟩;exact⟨S',v,rfl,h1,h.then_ h3 h4,h4⟩
theorem M7.third (h:M7 w D BO fv fs noB W)(ht:Intz w.heap.size w tv ts):M8 w D BO fv fs W.heap.size tv ts noB (W.alloc (.cells #[tv,.int .i64 0] 137)):=by
 have hb:Below W.heap.size W (W.alloc (.cells #[tv,.int .i64 0] 137)):=(zR _ _).alloc (yR _) _;have hB:Below w.heap.size w (W.alloc (.cells #[tv,.int .i64 0] 137)):=(h.bel.below (λ_ h=>h.elim) (λ_ h=>h.elim) (yR _)).trans (hb.mono h.bel.size);have mF:=h.td.lt;have T6:=h.ob.lt;exact⟨h.up hb,⟨TW.none _,⟨0,Nat.zero_le _,Blk.new _ _ _⟩,ht.ints.below hB,h.bel.size,ht.len,λ_ h=>h.elim,λh=>h⟩,oM,oM⟩
end
theorem Ev.join {g S':BS}{W W':Wd}(h:TW g W)(h3:Ev noB noB W S' W'):Ev noB g W (λb=>g b\/S' b) W':=by
 have h1:=Ev.of_below (X:=noB) h h3.low;refine⟨λb hb=> .inl hb,λb hb=> ?_,h3.os,h3.tape,h3.output,h3.size,λb hb _ _=>h3.rest b hb (λh=>h) (λh=>h),h1.shape,λb hb=> ?_⟩
 ·rcases hb with hb|hb
  ·exact .inl hb
  ·rcases h3.new b hb with h2|h2
   ·exact h2.elim
   ·exact .inr h2
 ·rcases hb with hb|hb
  ·obtain⟨c,e,hc,ht⟩:=h1.ok b hb
   exact⟨c,e,hc,ht.mono (λ_ h=> .inl h) (Shp.refl _ _)⟩
  ·obtain⟨c,e,hc,ht⟩:=h3.ok b hb
   exact⟨c,e,hc,ht.mono (λ_ h=> .inr h) (Shp.refl _ _)⟩
structure Bx1 (w:Wd)(B:Nat)(c:Array Value)(t:Td)(S:BS)(W:Wd):Prop where
 ev:Ev noB noB w S W
 b:Blk W B c t
 n:¬S B
 l:w.heap.size<=B
theorem Bx1.evo {w W W':Wd}{B:Nat}{c:Array Value}{t:Td}{S S':BS}(h:Bx1 w B c t S W)(he:Ev noB S W S' W'):Bx1 w B c t S' W':=⟨h.ev.trans he,he.blk h.b h.n (λh=>h),he.not h.b.lt h.n,h.l⟩
theorem Bx1.up {w W W':Wd}{B:Nat}{c:Array Value}{t:Td}{S:BS}(h:Bx1 w B c t S W)(hb:Below W.heap.size W W'):Bx1 w B c t S W':=h.evo (Ev.of_below h.ev.ok hb)
def FAt (B3:Nat)(ev:Vu)(px py:Int)(i:Nat)(v:Vu)(g:BS)(w:Wd):Prop :=
 match i with
 |0=>v=ev
 |1=>∃n,SL g w 249 v n/\n<=100
 |2=>v= .agg #[.int .i64 px,.int .i64 py]
 |3=>∃x b,v= .tuple #[.int .i64 x,.bool b]
 |4=>∃x,v= .int .i64 x
 |5=>∃b,v= .bool b
 |_=>False
theorem FAt.kept {B3:Nat}{ev:Vu}{px py:Int}{i:Nat}{v:Vu}{g g':BS}{w w':Wd}(h:FAt B3 ev px py i v g w)(hg:Ev noB g w g' w'):FAt B3 ev px py i v g' w':=by
 unfold FAt at *;split at h
 all_goals first|exact h|(obtain⟨n,h1,h2⟩:=h;exact⟨n,hg.sl h1,h2⟩)|(exact h)
theorem d8p (S:BS)(w:Wd)(hT:TW S w)(ev:Vu)(m:Nat)(dX:SL S w 206 ev m)(hm:m<=100)(px py:Int)(HV:fits px)(FF:fits py) :
 Calls prog 134 #[ev,.agg #[.int .i64 px,.int .i64 py]] w λe w'=>e0m e/\Below w.heap.size w w':=by
 go_enter func134,ntmps134;go_upto_region 1 with fail;have h0:Bx1 w w.heap.size #[.int .i64 px,.int .i64 py] 26 noB (w.alloc (.cells #[.int .i64 px,.int .i64 py] 26)):=⟨Ev.of_below (TW.none _) zC,Blk.new _ _ _,λh=>h,yR _⟩;obtain⟨W1,aH⟩:=zE (w.alloc (.cells #[.int .i64 px,.int .i64 py] 26));obtain⟨B3,aN⟩:=zE w.heap.size;rw[aH]at h0;rw[aH];have h1:Bx1 w B3 #[.int .i64 px,.int .i64 py] 26 noB W1:=by rw[<-aN];exact h0
 rw[aN];clear h0 aH aN;refine Go.wp_region_reln 6 zM zM (λ_ g W=>Bx1 w B3 #[.int .i64 px,.int .i64 py] 26 g W) (λg W g' W'=>Ev noB g W g' W') (FAt B3 ev px py) (λ_ _ _ _ _ _ h g=>h.kept g) noB (h1.evo (Ev.drew h1.ev.ok)) ?_ ?_
 ·intro i o hi ho c bb g W hc hM hA hD K hK
  match i,hi,ho with
  |0,_,ho =>
   cases ho;have f0:=a0a (v:=ev) (hA.at_ (k:=0) zM);go_simp;exact hK (ev) g W rfl (Ev.refl hM.ev.ok) hM
  |1,_,ho =>
   cases ho;have f6:=a0a (v:=ev) (a0f hD 0 6 zM rfl rfl);go_simp;have Mf:=Ev.of_below (X:=noB) hT hM.ev.low;refine(c7e S W Mf.ok ev m (Mf.sl dX) hm).mono ?_;rintro e W'⟨S',v,rfl,⟨n,h1,h2⟩,h3⟩;go_simp;have hj:=Ev.join hM.ev.ok h3;exact hK v _ W' ⟨n,h1.mono (λ_ h=> .inr h) (Shp.refl _ _),h2⟩ hj (hM.evo hj)
  |2,_,ho =>
   cases ho;have f3:=a0a (v:= .pointer (some ⟨B3,0,none⟩)) (hA.at_ (k:=3) zM);have z0:W.cell? ⟨B3,0,none⟩=some (.int .i64 px):=hM.b.cell 0;have z1:W.cell? ⟨B3,1,none⟩=some (.int .i64 py):=hM.b.cell 1;go_simp;exact hK (.agg #[.int .i64 px,.int .i64 py]) g W rfl (Ev.refl hM.ev.ok) hM
  |3,_,ho =>
   cases ho;have f7:=a0f hD 1 7 zM rfl rfl;have f8:=a0a (v:= .agg #[.int .i64 px,.int .i64 py]) (a0f hD 2 8 zM rfl rfl);obtain⟨n,h7,PL⟩:=f7;obtain⟨tv,e7⟩:=zE (bb.eval (.tmp 7));rw[e7]at h7;have f7:=a0a e7;go_simp;refine(b9y g W hM.ev.ok tv n h7 PL px py HV FF).mono ?_;rintro e W'⟨⟨x,b,rfl⟩,hb⟩;go_simp;exact hK (.tuple #[.int .i64 x,.bool b]) g W' ⟨_,_,rfl⟩ (Ev.of_below hM.ev.ok hb) (hM.up hb)
  |4,_,ho =>
   cases ho;have f9:=a0f hD 3 9 zM rfl rfl;obtain⟨x,b,e9⟩:=f9;have f9:=a0a e9;go_simp;exact hK (.int .i64 x) g W ⟨_,rfl⟩ (Ev.refl hM.ev.ok) hM
  |5,_,ho =>
   cases ho;have f9:=a0f hD 3 9 zM rfl rfl;obtain⟨x,b,e9⟩:=f9;have f9:=a0a e9;go_simp;exact hK (.bool b) g W ⟨_,rfl⟩ (Ev.refl hM.ev.ok) hM
  |i+6,hi,_=>exact absurd hi oM
 ·intro bb g W hM hA ah
  obtain⟨x,gp⟩:=(show ∃x,bb.eval (.tmp 10)= .int .i64 x from ah 4 oM _ _ rfl rfl);obtain⟨b,gD⟩:=(show ∃b,bb.eval (.tmp 11)= .bool b from ah 5 oM _ _ rfl rfl);have aC:=hA.frame [T,T,T,T,T,T,F,F,F,F,F,F] _ rfl zM;clear ah hA;obtain⟨f,hf⟩:=zDt bb;have g10:f 10= .int .i64 x:=by rw[<-hf,<-gp];rfl
  have g11:f 11= .bool b:=by rw[<-hf,<-gD];rfl
  rw[hf]at aC;clear hf gp gD;subst aC;simp only[a2d,g10,g11,Nat.reduceAdd];clear g10 g11;simp only[zU];go_wp2_with fail;go_ret2;exact⟨⟨_,_,rfl⟩,hM.ev.low⟩
theorem SL.face {S:BS}{W:Wd}{b off n cap:Nat}(hT:TW S W)(h:SL S W 140 (.slice (some ⟨b,off,none⟩) n cap) n){k:Nat}(hk:k<n):∃id d,W.cell? ⟨b,off+k*5,none⟩=some (.int .i64 id)/\W.cell? ⟨b,off+k*5+4,none⟩=some (.int .i64 d)/\fits id/\fits d:=by
 obtain⟨u0,c0,h0⟩:=h.cell hT a1v hk 0 .int rfl;obtain⟨u4,c4,h4⟩:=h.cell hT a1v hk 4 .int rfl;obtain⟨id,rfl,f0⟩:=h0.i rfl;obtain⟨d,rfl,f4⟩:=h4.i rfl;exact⟨id,d,c0,c4,f0,f4⟩
abbrev b8m (ev fv wv pv:Vu):Array Value:= #[ev,fv,wv,pv]
theorem b1n (S:BS)(w:Wd)(hT:TW S w)(ea fa wa pa:Option Addr)(en ec wn wc pn pc fc:Nat)(n:Nat)(gA:SL S w 140 (.slice fa n fc) n)(hn:n<=200)(id:Int) :
 Calls prog 135 #[.agg (b8m (.slice ea en ec) (.slice fa n fc) (.slice wa wn wc) (.slice pa pn pc)),.int .i64 id] w λe w'=>(∃x,e= .returned (.int .i64 x)/\fits x)/\Below w.heap.size w w':=by
 go_enter func135,ntmps135;go_wp2_with fail;have hb:Below w.heap.size w (w.alloc (.cells (b8m (.slice ea en ec) (.slice fa n fc) (.slice wa wn wc) (.slice pa pn pc)) 37)):=zC;have k1:=(Blk.new w (b8m (.slice ea en ec) (.slice fa n fc) (.slice wa wn wc) (.slice pa pn pc)) 37).cell 1;have bC:=Ev.of_below (X:=noB) hT hb;obtain⟨W1,aH⟩:=zE (w.alloc (.cells (b8m (.slice ea en ec) (.slice fa n fc) (.slice wa wn wc) (.slice pa pn pc)) 37));obtain⟨B,hB⟩:=zE w.heap.size;rw[aH]at hb bC k1;rw[aH];have c1:W1.cell? ⟨B,1,none⟩=some (.slice fa n fc):=by rw[<-hB];exact k1
 rw[hB];clear k1 hB aH;have H4:=bC.sl gA;go_loopw [5] (λkk wr=>∃k:Nat,k<=n/\kk= .int .i64 (k:Nat)/\wr=W1) (λkk _=>n-(intOf kk).toNat)
 case atStart=>exact⟨0,Nat.zero_le _,rfl,rfl⟩
 case round =>
  obtain⟨k,hk,rfl,rfl⟩:=hrel;by_cases ag:k<n
  ·have aA:(k:Int)<(n:Int):=oM
   obtain⟨b,off,aI,bL,-,-⟩:=gA.some_ oM;simp only[Value.slice.injEq,true_and]at bL;obtain⟨rfl,rfl⟩:=bL;obtain⟨q,d,c0,c4,fq,fd⟩:=SL.face bC.ok H4 ag;by_cases jU:q=id
   ·subst jU
    go_wp2_with fail;go_ret;exact⟨⟨_,rfl,fd⟩,hb⟩
   ·have wJ:(q==id)=false:=by simpa using jU
    go_wp2_with fail;go_roundw
    case rel=>exact⟨k+1,oM,by go_num,by first|rfl|trivial⟩
    case measure=>simp[intOf];omega
  ·have aY:¬(k:Int)<(n:Int):=oM
   go_wp2_with fail;go_ret;exact⟨⟨_,rfl,⟨jM,jM⟩⟩,hb⟩
theorem a7j (i j:Int)(w:Wd):Calls prog 133 #[.int .i64 i,.int .i64 j] w λe w'=>(∃x y,e= .returned (.agg #[.int .i64 x,.int .i64 y])/\fits x/\fits y)/\Below w.heap.size w w':=by
 go_enter func133,ntmps133;go_wp2_with fail;have hk:=Blk.new w #[.int .i64 (wrap64 (55+wrap64 (80*i))),.int .i64 (wrap64 (65+wrap64 (70*j)))] 26;exact yid
abbrev b0f :=List (Nat×Array Value×TypeId)
abbrev SlL :=List (TypeId×Value×Nat)
structure DY (n₀ D:Nat)(sv:Vu)(xs:List Int)(S0:BS)(W0:Wd)(S:BS)(W:Wd)(L:b0f)(T:SlL):Prop where
 st:ST n₀ D sv xs S0 W0 S W
 bx:∀p∈L,Blk W p.1 p.2.1 p.2.2/\¬S p.1/\p.1≠D/\W0.heap.size<=p.1
 ne:(L.map (·.1)).Nodup
 sl:∀q∈T,SL S W q.1 q.2.1 q.2.2
section
variable {n₀ D:Nat}{sv:Vu}{xs:List Int}{S0 S S':BS}{W0 W W':Wd}{L:b0f}{T:SlL}{B B2 B3:Nat}{c c2 c3:Array Value}{t t2 t3:Td}{p:Nat×Array Value×TypeId}
theorem TD.dw (h:TD S n₀ D sv xs W):DY n₀ D sv xs S W S W [] []:=⟨h.st,λ_ h=>by simp at h,by simp,λ_ h=>by simp at h⟩
theorem DY.evo (h:DY n₀ D sv xs S0 W0 S W L T)(he:Ev noB S W S' W'):DY n₀ D sv xs S0 W0 S' W' L T :=
 ⟨h.st.evo he,λp hp=>by obtain⟨h1,h2,h3,h4⟩:=h.bx p hp;exact⟨he.blk h1 h2 (λh=>h),he.not h1.lt h2,h3,h4⟩,h.ne,λq hq=>he.sl (h.sl q hq)⟩
theorem DY.up (h:DY n₀ D sv xs S0 W0 S W L T)(hb:Below W.heap.size W W'):DY n₀ D sv xs S0 W0 S W' L T:=h.evo (Ev.of_below h.st.td.tw hb)
theorem DY.fresh (h:DY n₀ D sv xs S0 W0 S W L T)(hb:Below W.heap.size W W')(hB:W.heap.size<=B)(hk:Blk W' B c t):DY n₀ D sv xs S0 W0 S W' ((B,c,t)::L) T:=by
 have h1:=h.up hb;refine⟨h1.st,λp hp=> ?_,?_,h1.sl⟩
 ·rcases List.mem_cons.1 hp with rfl|hp
  ·exact⟨hk,λhs=>by have:=h.st.td.tw.lt hs;omega,λe=>by have:=h.st.td.lt;simp at e;omega,Nat.le_trans h.st.ev.size hB⟩
  ·exact h1.bx p hp
 ·exact yhc
theorem DY.box (h:DY n₀ D sv xs S0 W0 S W L T)(c:Array Value)(t:Td):DY n₀ D sv xs S0 W0 S (W.alloc (.cells c t)) ((W.heap.size,c,t)::L) T:=h.fresh ((zR _ _).alloc (yR _) _) (yR _) (Blk.new _ _ _)
theorem DY.cellT (h:DY n₀ D sv xs S0 W0 S W L T){c:Array Value}{e:Td}(hc:TB S W e c):DY n₀ D sv xs S0 W0 (λb=>S b\/b=W.heap.size) (W.alloc (.cells c e)) L T:=h.evo (Ev.alloc h.st.td.tw hc)
theorem DY.add (h:DY n₀ D sv xs S0 W0 S W L T){e:Td}{v:Vu}{n:Nat}(hv:SL S W e v n):DY n₀ D sv xs S0 W0 S W L ((e,v,n)::T):=⟨h.st,h.bx,h.ne,λq hq=>by
 rcases List.mem_cons.1 hq with rfl|hq
 ·exact hv
 ·exact h.sl q hq⟩
theorem DY.tail (h:DY n₀ D sv xs S0 W0 S W (p::L) T):DY n₀ D sv xs S0 W0 S W L T:=⟨h.st,λq hq=>h.bx q (List.mem_cons_of_mem _ hq),(List.nodup_cons.1 h.ne).2,h.sl⟩
theorem DY.tailT {q:TypeId×Value×Nat}(h:DY n₀ D sv xs S0 W0 S W L (q::T)):DY n₀ D sv xs S0 W0 S W L T:=⟨h.st,h.bx,h.ne,λq hq=>h.sl q (List.mem_cons_of_mem _ hq)⟩
theorem DY.swap {q:Nat×Array Value×TypeId}(h:DY n₀ D sv xs S0 W0 S W (p::q::L) T):DY n₀ D sv xs S0 W0 S W (q::p::L) T:=⟨h.st,λr hr=>h.bx r (by
 simp only[List.mem_cons]at hr ⊢;rcases hr with h|h|h
 ·exact .inr (.inl h)
 ·exact .inl h
 ·exact .inr (.inr h)),by
  have:=h.ne;simp only[List.map_cons,List.nodup_cons,List.mem_cons,not_or]at this ⊢;exact⟨⟨λe=>this.1.1 e.symm,this.2.1⟩,this.1.2,this.2.2⟩,h.sl⟩
theorem DY.call (h:DY n₀ D sv xs S0 W0 S W L T)(m:Int)(cV:1<=m)(fO:m<=4611686018427387904) :
 Calls prog 73 #[.pointer (some ⟨D,0,none⟩),.int .i64 m] W λe W'=>∃v,e= .returned (.int .i64 v)/\0<=v/\v<m/\DY n₀ D sv xs S0 W0 S W' L T:=by
 refine(h.st.call m cV fO).mono ?_;rintro e W'⟨v,rfl,h0,h1,h2,hg,h3⟩;exact⟨v,rfl,h0,h1,⟨h2,λp hp=>by
  obtain⟨k1,k2,k3,k4⟩:=h.bx p hp;exact⟨k1.kept hg (λe=>k3 (Option.some.inj e).symm),k2,k3,k4⟩,h.ne,λq hq=>h3.sl (h.sl q hq)⟩⟩
theorem DY.write (h:DY n₀ D sv xs S0 W0 S W ((B,c,t)::L) T)(hg:W.grownBy W' (some B))(hk:Blk W' B c2 t2):DY n₀ D sv xs S0 W0 S W' ((B,c2,t2)::L) T:=by
 obtain⟨dq,aG,aN,bZ⟩:=h.bx _ (List.mem_cons_self ..);have aM:∀b,b≠B->b<W.heap.size->W'.heap[b]? =W.heap[b]? :=λb hb hl=>hg.block b hl (λe=>hb (Option.some.inj e))
 have bC:=h.st.ev.own hg (λr e=>by cases e;exact⟨aG,bZ⟩);have ag:=h.st.td.lt;have jr:=h.st.lo;obtain⟨j,hj,hb⟩:=h.st.td.box;have bU:Below n₀ W W':=Below.of_grown hg (by have:=h.st.td.le;omega) (λq e=>by cases e;simp only at bZ;omega);have bO:Shp S W W':=λb c e hb hc=>⟨c,(aM b (λe=>aG (by subst e;exact hb)) hc.lt).trans hc,rfl⟩
 refine⟨⟨⟨bC.ok,⟨j,hj,hb.kept hg (λe=>aN (Option.some.inj e))⟩,h.st.td.ints.below bU,h.st.td.le,h.st.td.len,h.st.td.low,h.st.td.not⟩,bC,jr⟩,λp hp=> ?_,?_,λq hq=>(h.sl q hq).mono (λ_ h=>h) bO⟩
 ·rcases List.mem_cons.1 hp with rfl|rW
  ·exact⟨hk,aG,aN,bZ⟩
  ·obtain⟨k1,k2,k3,k4⟩:=h.bx p (List.mem_cons_of_mem _ rW)
   refine⟨k1.kept hg (λe=> ?_),k2,k3,k4⟩;exact yir
 ·exact h.ne
theorem DY.set (h:DY n₀ D sv xs S0 W0 S W ((B,c,t)::L) T)(i:Nat)(v:Vu){c':Array Value}(hc:c.setIfInBounds i v=c'):DY n₀ D sv xs S0 W0 S (W.setCell ⟨B,i,none⟩ v) ((B,c',t)::L) T :=
 h.write (a0z W B i v) (hc▸(h.bx _ (List.mem_cons_self ..)).1.set i v)
theorem DY.b0 (h:DY n₀ D sv xs S0 W0 S W ((B,c,t)::L) T):Blk W B c t:=(h.bx _ (List.mem_cons_self ..)).1
theorem DY.b1 (h:DY n₀ D sv xs S0 W0 S W (p::(B,c,t)::L) T):Blk W B c t:=h.tail.b0
theorem DY.b2 {p2:Nat×Array Value×TypeId}(h:DY n₀ D sv xs S0 W0 S W (p::p2::(B,c,t)::L) T):Blk W B c t:=h.tail.tail.b0
theorem DY.b3 {p2 p3:Nat×Array Value×TypeId}(h:DY n₀ D sv xs S0 W0 S W (p::p2::p3::(B,c,t)::L) T):Blk W B c t:=h.tail.tail.tail.b0
theorem DY.s0 {e:Td}{v:Vu}{n:Nat}(h:DY n₀ D sv xs S0 W0 S W L ((e,v,n)::T)):SL S W e v n:=h.sl _ (List.mem_cons_self ..)
theorem DY.s1 {q:TypeId×Value×Nat}{e:Td}{v:Vu}{n:Nat}(h:DY n₀ D sv xs S0 W0 S W L (q::(e,v,n)::T)):SL S W e v n:=h.tailT.s0
theorem DY.td (h:DY n₀ D sv xs S0 W0 S W L T):TD S n₀ D sv xs W:=h.st.td
theorem DY.tw (h:DY n₀ D sv xs S0 W0 S W L T):TW S W:=h.st.td.tw
theorem DY.then_ (h:DY n₀ D sv xs S0 W0 S W L T)(h1:TD S' n₀ D sv xs W')(h2:Ev (b1b D) S W S' W'):DY n₀ D sv xs S0 W0 S' W' L T :=
 ⟨h.st.then_ h1 h2,λp hp=>by
  obtain⟨k1,k2,k3,k4⟩:=h.bx p hp;exact⟨h2.blk k1 k2 k3,h2.not k1.lt k2,k3,k4⟩,h.ne,λq hq=>h2.sl (h.sl q hq)⟩
end
def Strs (c:Array Value):Prop:=∀u∈c.toList,∃s,u= .string s/\s.size<=30
theorem b0g (l:List ByteArray)(h:l.all (λs=>decide (s.size<=30))=true):Strs (l.map Value.string).toArray:=λu hu=>by
 simp only[List.mem_map]at hu;obtain⟨s,hs,rfl⟩:=hu;exact⟨s,rfl,of_decide_eq_true (List.all_eq_true.1 h s hs)⟩
theorem Strs.at_ {W:Wd}{B:Nat}{c:Array Value}{t:Td}(hs:Strs c)(h:Blk W B c t){q:Nat}(hq:q<c.size):∃s,W.cell? ⟨B,q,none⟩=some (.string s)/\s.size<=30:=by
 obtain⟨s,hx,h2⟩:=hs (c[q]'hq) vM;exact⟨s,by rw[h.cell,Array.getElem?_eq_getElem hq,hx],h2⟩
theorem a6x {W:Wd}{B:Nat}{a b c d e f g i:Vu}{t:Td}(h:Blk W B #[a,b,c,d,e,f,g,i] t):W.cell? ⟨B,0,none⟩=some a/\W.cell? ⟨B,1,none⟩=some b/\W.cell? ⟨B,2,none⟩=some c/\W.cell? ⟨B,3,none⟩=some d/\W.cell? ⟨B,4,none⟩=some e/\W.cell? ⟨B,5,none⟩=some f/\W.cell? ⟨B,6,none⟩=some g/\W.cell? ⟨B,7,none⟩=some i :=
 ⟨h.cell 0,h.cell 1,h.cell 2,h.cell 3,h.cell 4,h.cell 5,h.cell 6,h.cell 7⟩
theorem b9z {W:Wd}{B:Nat}{a b c d e f g:Vu}{t:Td}(h:Blk W B #[a,b,c,d,e,f,g] t):W.cell? ⟨B,0,none⟩=some a/\W.cell? ⟨B,1,none⟩=some b/\W.cell? ⟨B,2,none⟩=some c/\W.cell? ⟨B,3,none⟩=some d/\W.cell? ⟨B,4,none⟩=some e/\W.cell? ⟨B,5,none⟩=some f/\W.cell? ⟨B,6,none⟩=some g :=
 ⟨h.cell 0,h.cell 1,h.cell 2,h.cell 3,h.cell 4,h.cell 5,h.cell 6⟩
theorem a2c {W:Wd}{B:Nat}{a b c d:Vu}{t:Td}(h:Blk W B #[a,b,c,d] t):W.cell? ⟨B,0,none⟩=some a/\W.cell? ⟨B,1,none⟩=some b/\W.cell? ⟨B,2,none⟩=some c/\W.cell? ⟨B,3,none⟩=some d :=
 ⟨h.cell 0,h.cell 1,h.cell 2,h.cell 3⟩
abbrev c5u (id:Int)(lv:Vu)(dG:Int)(cs ns:Bw)(st:Bool)(wt ds:Int):Array Value:= #[.int .i64 id,lv,.int .i64 dG,.string cs,.string ns,.bool st,.int .i64 wt,.int .i64 ds]
abbrev e0o (id x y:Int)(cs ns:Bw)(wt ds:Int):Array Value:= #[.int .i64 id,.int .i64 x,.int .i64 y,.string cs,.string ns,.int .i64 wt,.int .i64 ds]
theorem d0p {S:BS}{W:Wd}{id dG wt ds:Int}{cs ns:Bw}{st:Bool}{v:Vu}{n:Nat}(h0:fits id)(h2:fits dG)(h3:cs.size<=30)(h4:ns.size<=30)(h6:fits wt)(h7:fits ds)(hv:SL S W 26 v n)(hn:n<=100):TB S W 149 (c5u id v dG cs ns st wt ds):=c2x rfl rfl λi u ct k1 k2=>by
 match i,k1,k2 with
 |0,k1,k2=>cases k1;cases k2;exact CT.ok_int h0
 |1,k1,k2=>cases k1;cases k2;exact CT.ok_sl hv hn
 |2,k1,k2=>cases k1;cases k2;exact CT.ok_int h2
 |3,k1,k2=>cases k1;cases k2;exact CT.ok_str h3
 |4,k1,k2=>cases k1;cases k2;exact CT.ok_str h4
 |5,k1,k2=>cases k1;cases k2;exact CT.ok_bool _
 |6,k1,k2=>cases k1;cases k2;exact CT.ok_int h6
 |7,k1,k2=>cases k1;cases k2;exact CT.ok_int h7
 |i+8,k1,_=>simp at k1
theorem DY.pt0 {n₀ D:Nat}{sv:Vu}{xs:List Int}{S0 S:BS}{W0 W:Wd}{L:b0f}{T:SlL}{B:Nat}{X Y X':Int}{t:Td}(h:DY n₀ D sv xs S0 W0 S W ((B,#[.int .i64 X,.int .i64 Y],t)::L) T)(f:fits X'):∃X7,fits X7/\DY n₀ D sv xs S0 W0 S (W.setCell ⟨B,0,none⟩ (.int .i64 X')) ((B,#[.int .i64 X7,.int .i64 Y],t)::L) T :=
 ⟨X',f,h.set 0 _ vM⟩
theorem DY.pt1 {n₀ D:Nat}{sv:Vu}{xs:List Int}{S0 S:BS}{W0 W:Wd}{L:b0f}{T:SlL}{B:Nat}{X Y Y':Int}{t:Td}(h:DY n₀ D sv xs S0 W0 S W ((B,#[.int .i64 X,.int .i64 Y],t)::L) T)(f:fits Y'):∃Y7,fits Y7/\DY n₀ D sv xs S0 W0 S (W.setCell ⟨B,1,none⟩ (.int .i64 Y')) ((B,#[.int .i64 X,.int .i64 Y7],t)::L) T :=
 ⟨Y',f,h.set 1 _ vM⟩
theorem DY.put {n₀ D:Nat}{sv:Vu}{xs:List Int}{S0 S:BS}{W0 W W':Wd}{L:b0f}{T:SlL}{B i:Nat}{c c':Array Value}{v:Vu}{t:Td}(h:DY n₀ D sv xs S0 W0 S W ((B,c,t)::L) T)(hW:W'=W.setCell ⟨B,i,none⟩ v)(hc:c.setIfInBounds i v=c'):DY n₀ D sv xs S0 W0 S W' ((B,c',t)::L) T:=hW▸h.set i v hc
theorem DY.wd {n₀ D:Nat}{sv:Vu}{xs:List Int}{S0 S:BS}{W0 W W':Wd}{L:b0f}{T:SlL}{B:Nat}{id dG wt d:Int}{lv:Vu}{cs ns:Bw}{st:Bool}{t:Td}(h:DY n₀ D sv xs S0 W0 S W ((B,c5u id lv dG cs ns st wt 0,t)::L) T)(hW:W'=W.setCell ⟨B,7,none⟩ (.int .i64 d))(f:fits d):∃d7,fits d7/\DY n₀ D sv xs S0 W0 S W' ((B,c5u id lv dG cs ns st wt d7,t)::L) T :=
 ⟨d,f,h.put hW rfl⟩
def FWy (wr:Wd)(B6 B7 k M:Nat)(ax ay bx by_:Int)(i:Nat)(v:Vu)(w:Wd):Prop :=
 match i with
 |0=>v= .pointer (some ⟨B6,0,none⟩)
 |1=>v= .int .i64 ax
 |2=>v= .pointer (some ⟨B7,0,none⟩)
 |3=>v= .int .i64 bx
 |4=>v= .pointer (some ⟨B6,0,none⟩)
 |5=>v= .int .i64 ax
 |6=>∃x,v= .int .i64 x/\fits x
 |7=>v= .int .i64 (k:Nat)
 |8=>∃x,v= .int .i64 x/\fits x
 |9=>v= .int .i64 (M:Nat)
 |10=>v= .int .i64 ((M:Nat)+1)
 |11=>∃x,v= .int .i64 x/\fits x
 |12=>∃x,v= .int .i64 x/\fits x
 |13=>v= .pointer (some ⟨B6,1,none⟩)
 |14=>v= .int .i64 ay
 |15=>v= .pointer (some ⟨B7,1,none⟩)
 |16=>v= .int .i64 by_
 |17=>v= .pointer (some ⟨B6,1,none⟩)
 |18=>v= .int .i64 ay
 |19=>∃x,v= .int .i64 x/\fits x
 |20=>v= .int .i64 (k:Nat)
 |21=>∃x,v= .int .i64 x/\fits x
 |22=>v= .int .i64 (M:Nat)
 |23=>v= .int .i64 ((M:Nat)+1)
 |24=>∃x,v= .int .i64 x/\fits x
 |25=>∃x,v= .int .i64 x/\fits x
 |26=>∃X Y,v= .agg #[.int .i64 X,.int .i64 Y]/\fits X/\fits Y
 |27=>∃B,v= .pointer (some ⟨B,0,none⟩)/\wr.heap.size<=B/\Blk w B #[.int .i64 0,.int .i64 0] 26
 |_=>False
theorem FWy.kept {wr:Wd}{B6 B7 k M:Nat}{ax ay bx by_:Int}{i:Nat}{v:Vu}{w w':Wd}(h:FWy wr B6 B7 k M ax ay bx by_ i v w)(hg:Below w.heap.size w w'):FWy wr B6 B7 k M ax ay bx by_ i v w':=by
 unfold FWy at *;exact yjn
def e4k (n₀ D:Nat)(sv:Vu)(xs:List Int)(S:BS)(w:Wd)(m M BW B6 B7:Nat)(dG ax ay bx by_:Int)(ov kk:Vu)(wr:Wd):Prop :=
 ∃(k:Nat) (S':BS) (lv:Vu) (n:Nat),1<=k/\k<=M+1/\kk= .int .i64 (k:Nat)/\n<=k/\DY n₀ D sv xs S w S' wr [(BW,c5u (41+m) lv dG ⟨#[]⟩ ⟨#[]⟩ false 0 0,149),(B6,#[.int .i64 ax,.int .i64 ay],26),(B7,#[.int .i64 bx,.int .i64 by_],26)] [(26,lv,n),(149,ov,m)]
theorem c2z (n₀ D:Nat)(sv:Vu)(xs:List Int)(S:BS)(w:Wd)(h:TD S n₀ D sv xs w)(ov:Vu)(m:Nat)(mg:SL S w 149 ov m)(hm:m<=100)(ax ay bx by_ dG:Int)(fa:fits ax)(fb:fits ay)(fc:fits bx)(fd:fits by_)(fl:fits dG) :
 Calls prog 132 #[ov,.agg #[.int .i64 ax,.int .i64 ay],.agg #[.int .i64 bx,.int .i64 by_],.int .i64 dG,.pointer (some ⟨D,0,none⟩)] w λe w'=>∃S' v,e= .returned v/\SL S' w' 149 v (m+1)/\TD S' n₀ D sv xs w'/\Ev (b1b D) S w S' w':=by
 obtain⟨oa,oc,rfl,Fa⟩:=mg.form;go_enter func132,ntmps132;go_upto_region 2 with fail;refine a0m (λW1 aH=> ?_);obtain⟨B6,qK⟩:=zE w.heap.size;obtain⟨B7,jd⟩:=zE (w.heap.size+1);obtain⟨BL,xQ⟩:=zE (w.heap.size+1+1);obtain⟨BW,H5⟩:=zE (w.heap.size+1+1+1);obtain⟨S1,hd⟩:∃S1,DY n₀ D sv xs S w S1 W1 [(BW,c5u (41+m) (.slice (some ⟨BL,0,none⟩) 1 1) dG ⟨#[]⟩ ⟨#[]⟩ false 0 0,149),(B6,#[.int .i64 ax,.int .i64 ay],26),(B7,#[.int .i64 bx,.int .i64 by_],26)] [(26,.slice (some ⟨BL,0,none⟩) 1 1,1),(149,.slice oa m oc,m)]:=by
  have h1:=((((h.dw.add mg).box #[.int .i64 ax,.int .i64 ay] 26).box #[.int .i64 bx,.int .i64 by_] 26).swap.cellT (a6c fa fb));have h2:=(h1.add (SL.blk (.inr rfl) (Blk.new _ _ _) (by show 1*2<=2;omega))).box (c5u (41+m) (.slice (some ⟨BL,0,none⟩) 1 1) dG ⟨#[]⟩ ⟨#[]⟩ false 0 0) 149;simp only[World.size_alloc]at h2;rw[H5,xQ,jd,qK]at h2;rw[aH,xQ];exact⟨_,h2⟩
 rw[H5,xQ,jd,qK];clear aH H5 xQ jd qK;obtain⟨lv,aJ⟩:=zE (Value.slice (some ⟨BL,0,none⟩) 1 1);rw[aJ]at hd;clear aJ;go_wp2_with (first
  |(go_at_call 73;(with_reducible refine(hd.call 3 oM oM).mono ?_);rintro e W2⟨many,rfl,m0,m1,dW⟩))
 obtain⟨M,rfl⟩:∃M:Nat,many=M:=⟨many.toNat,oM⟩;go_loopw [13] (λkk wr=>e4k n₀ D sv xs S w m M BW B6 B7 dG ax ay bx by_ (.slice oa m oc) kk wr) (λkk _=>M+1-(intOf kk).toNat)
 case atStart=>exact⟨1,S1,lv,1,oM,oM,rfl,oM,dW⟩
 case round =>
  clear hd dW lv;obtain⟨ov,FE⟩:=zE (Value.slice oa m oc);rw[FE]at hrel;rw[FE];obtain⟨k,S',lv,n,jR,LU,rfl,hn,hd⟩:=hrel;by_cases ag:k<=M
  ·have aA:(k:Int)<=(M:Int):=oM
   have qF:¬(M:Int)+1=0:=oM;have Ph:IntKind.i64.wrap ((M:Int)+1)=M+1:=a0j oM oM;have k6:=hd.b1;have k7:=hd.b2;obtain⟨la,lc,rfl,-⟩:=hd.s0.form;obtain⟨lv,aJ⟩:=zE (Value.slice la n lc);rw[aJ]at hd;go_upto_region 6 with fail;refine Go.wp_region_rel 28 zM zM (λ_ W=>WG7 wr B6 B7 ax ay bx by_ W) (λw w'=>Below w.heap.size w w') (FWy wr B6 B7 k M ax ay bx by_) (λ_ _ _ _ h g=>h.kept g) ⟨(zR _ _).drew,k6.drew,k7.drew⟩ ?_ ?_
   ·clear hd k6 k7 h mg
    intro i o hi ho c bb W hc hM hA hD K hK;match i,hi,ho with
    |0,_,ho =>
     exact ygi
    |1,_,ho =>
     cases ho;have f30:=a0a (v:= .pointer (some ⟨B6,0,none⟩)) (a0b hD 0 30 zM rfl rfl);exact yio
    |2,_,ho =>
     cases ho;have f7:=a0a (v:= .pointer (some ⟨B7,0,none⟩)) (hA.at_ (k:=7) zM);go_simp;exact hK (.pointer (some ⟨B7,0,none⟩)) W rfl (zR _ _) hM
    |3,_,ho =>
     cases ho;have f32:=a0a (v:= .pointer (some ⟨B7,0,none⟩)) (a0b hD 2 32 zM rfl rfl);have z0:W.cell? ⟨B7,0,none⟩=some (.int .i64 bx):=hM.u.cell 0;go_simp;exact hK (.int .i64 bx) W rfl (zR _ _) hM
    |4,_,ho =>
     exact ygi
    |5,_,ho =>
     cases ho;have f34:=a0a (v:= .pointer (some ⟨B6,0,none⟩)) (a0b hD 4 34 zM rfl rfl);exact yio
    |6,_,ho =>
     cases ho;have f33:=a0a (v:= .int .i64 bx) (a0b hD 3 33 zM rfl rfl);have f35:=a0a (v:= .int .i64 ax) (a0b hD 5 35 zM rfl rfl);exact yce
    |7,_,ho =>
     exact ykg
    |8,_,ho =>
     cases ho;have f36:=a0b hD 6 36 zM rfl rfl;obtain⟨T7,PM,T8⟩:=f36;have f36:=a0a PM;have f37:=a0a (v:= .int .i64 (k:Nat)) (a0b hD 7 37 zM rfl rfl);exact yce
    |9,_,ho =>
     exact ykh
    |10,_,ho =>
     cases ho;have f39:=a0a (v:= .int .i64 (M:Nat)) (a0b hD 9 39 zM rfl rfl);exact ygh
    |11,_,ho =>
     cases ho;have f38:=a0b hD 8 38 zM rfl rfl;obtain⟨T9,PN,Ua⟩:=f38;have f38:=a0a PN;have f40:=a0a (v:= .int .i64 ((M:Nat)+1)) (a0b hD 10 40 zM rfl rfl);exact yce
    |12,_,ho =>
     cases ho;have f31:=a0a (v:= .int .i64 ax) (a0b hD 1 31 zM rfl rfl);have f41:=a0b hD 11 41 zM rfl rfl;obtain⟨Ub,PR,Uc⟩:=f41;have f41:=a0a PR;exact yce
    |13,_,ho =>
     exact ygj
    |14,_,ho =>
     cases ho;have f43:=a0a (v:= .pointer (some ⟨B6,1,none⟩)) (a0b hD 13 43 zM rfl rfl);exact yip
    |15,_,ho =>
     cases ho;have f7:=a0a (v:= .pointer (some ⟨B7,0,none⟩)) (hA.at_ (k:=7) zM);go_simp;exact hK (.pointer (some ⟨B7,1,none⟩)) W rfl (zR _ _) hM
    |16,_,ho =>
     cases ho;have f45:=a0a (v:= .pointer (some ⟨B7,1,none⟩)) (a0b hD 15 45 zM rfl rfl);have z0:W.cell? ⟨B7,1,none⟩=some (.int .i64 by_):=hM.u.cell 1;go_simp;exact hK (.int .i64 by_) W rfl (zR _ _) hM
    |17,_,ho =>
     exact ygj
    |18,_,ho =>
     cases ho;have f47:=a0a (v:= .pointer (some ⟨B6,1,none⟩)) (a0b hD 17 47 zM rfl rfl);exact yip
    |19,_,ho =>
     cases ho;have f46:=a0a (v:= .int .i64 by_) (a0b hD 16 46 zM rfl rfl);have f48:=a0a (v:= .int .i64 ay) (a0b hD 18 48 zM rfl rfl);exact yce
    |20,_,ho =>
     exact ykg
    |21,_,ho =>
     cases ho;have f49:=a0b hD 19 49 zM rfl rfl;obtain⟨Ud,PS,Ue⟩:=f49;have f49:=a0a PS;have f50:=a0a (v:= .int .i64 (k:Nat)) (a0b hD 20 50 zM rfl rfl);exact yce
    |22,_,ho =>
     exact ykh
    |23,_,ho =>
     cases ho;have f52:=a0a (v:= .int .i64 (M:Nat)) (a0b hD 22 52 zM rfl rfl);exact ygh
    |24,_,ho =>
     cases ho;have f51:=a0b hD 21 51 zM rfl rfl;obtain⟨Uf,H6,Ug⟩:=f51;have f51:=a0a H6;have f53:=a0a (v:= .int .i64 ((M:Nat)+1)) (a0b hD 23 53 zM rfl rfl);exact yce
    |25,_,ho =>
     cases ho;have f44:=a0a (v:= .int .i64 ay) (a0b hD 14 44 zM rfl rfl);have f54:=a0b hD 24 54 zM rfl rfl;obtain⟨Uh,PT,Ui⟩:=f54;have f54:=a0a PT;exact yce
    |26,_,ho =>
     cases ho;have f42:=a0b hD 12 42 zM rfl rfl;obtain⟨Uj,PU,PV⟩:=f42;have f42:=a0a PU;have f55:=a0b hD 25 55 zM rfl rfl;obtain⟨Uk,PW,FI⟩:=f55;have f55:=a0a PW;go_simp;exact hK _ W ⟨_,_,rfl,PV,FI⟩ (zR _ _) hM
    |27,_,ho =>
     exact yge
    |i+28,hi,_=>exact absurd hi oM
   ·intro bb W hM hA ah
    obtain⟨X,Y,C9,fX,fY⟩:=(show ∃X Y,bb.eval (.tmp 56)= .agg #[.int .i64 X,.int .i64 Y]/\fits X/\fits Y from ah 26 oM _ _ rfl rfl);obtain⟨Mg,Da,nz,vu⟩:=(show ∃B,bb.eval (.tmp 14)= .pointer (some ⟨B,0,none⟩)/\wr.heap.size<=B/\Blk W B #[.int .i64 0,.int .i64 0] 26 from ah 27 oM _ _ rfl rfl);have aC:=hA.frame (rT 14 (rF 1 (rT 15 (rF 27 (rT 66 ([])))))) _ rfl zM;clear ah hA;obtain⟨f,hf⟩:=zDt bb;have Mh:f 56= .agg #[.int .i64 X,.int .i64 Y]:=by rw[<-hf,<-C9];rfl
    have g14:f 14= .pointer (some ⟨Mg,0,none⟩):=by rw[<-hf,<-Da];rfl
    rw[hf]at aC;clear hf C9 Da;subst aC;simp only[rT,rF,a2d,Mh,g14,Nat.reduceAdd];clear Mh g14;simp only[zU];refine a3a qM _ _ _ qM Mg #[.int .i64 X,.int .i64 Y] qM qM _ _ vu qM qM (by simp[Value.oneCell']) ?_;intro W5 kP vz;have A5:=hd.fresh (hM.b.trans (Below.of_grown vz hM.b.size (λr e=>by cases e;exact nz))) nz kP;clear hM vu vz kP nz hd k6 k7;go_upto_region 8 with(first
     |(go_at_call 73;(with_reducible refine(A5.call 17 oM oM).mono ?_);rintro e W6⟨dr,rfl,r0,r1,mn⟩))
    obtain⟨a0,a1,-,-⟩:=pt2 mn.b2;obtain⟨b0,b1,-,-⟩:=pt2 mn.b3;clear A5;by_cases hy:ay=by_
    ·subst hy
     obtain⟨p0,p1,sU,sV⟩:=pt2 mn.b0;go_upto_region 10 with fail;refine a0m (λW8 jz=> ?_);obtain⟨Y7,GW,gJ⟩:=mn.pt1 (a1c (Y+(dr-8)));rw[<-jz]at gJ;clear jz p0 p1 sU sV a0 a1 b0 b1 mn;exact yam
    ·have P0:(ay==by_)=false:=by simpa using hy
     go_upto_region 10 with fail;clear a0 a1 b0 b1;have gJ:=mn;have GW:=fY;clear mn;obtain⟨Y7,Mi⟩:∃y,y=Y:=⟨_,rfl⟩;rw[<-Mi]at GW gJ;clear Mi;exact yam
  ·have aY:¬(k:Int)<=(M:Int):=oM
   have Ul:n<=4:=oM;clear ag jR LU hn;obtain⟨b0,b1,-,-⟩:=pt2 hd.b2;obtain⟨y0,y1,y2,y3,y4,y5,y6,y7⟩:=a6x hd.b0;go_upto_region 14 with(first
    |(at_builtin;refine a1a hd.tw qM _ _ 147 qM underlying147 a1z qM hd.s0 qM rfl (a6c fc fd) rfl oM ?_;intro v9 S9 w9 aX cG;obtain⟨a9,c9,rfl,-⟩:=aX.form;have gJ:=hd.evo cG;obtain⟨z0,z1,z2,z3,z4,z5,z6,z7⟩:=a6x gJ.b0;have zf:=gJ.b0.frozen 1))
   refine a0m (λWA tR=> ?_);have uO:=(gJ.tailT.add aX).put tR (c':=c5u (41+m) (.slice a9 (n+1) c9) dG ⟨#[]⟩ ⟨#[]⟩ false 0 0) rfl;clear hd gJ aX cG tR z0 z1 z2 z3 z4 z5 z6 z7 zf b0 b1 y0 y1 y2 y3 y4 y5 y6 y7;have st1:Strs #[.string ⟨#[112,97,116,104]⟩,.string ⟨#[114,111,97,100]⟩]:=b0g [⟨#[112,97,116,104]⟩,⟨#[114,111,97,100]⟩] jM;go_upto_region 15 with(first
    |(go_at_call 73;(with_reducible refine((uO.box _ _).call 2 oM oM).mono ?_);rintro e Wb⟨q,rfl,q0,q1,hb⟩;obtain⟨q,rfl⟩:=Int.eq_ofNat_of_zero_le q0;obtain⟨s1,uL,fB⟩:=st1.at_ hb.b0 (q:=q) uM;have lK:=hb.tail;obtain⟨z0,z1,z2,z3,z4,z5,z6,z7⟩:=a6x lK.b0;have zf:=lK.b0.frozen 3))
   refine a0m (λWC uN=> ?_);have sQ:=lK.put uN (c':=c5u (41+m) (.slice a9 (n+1) c9) dG s1 ⟨#[]⟩ false 0 0) rfl;clear uO lK hb uN z0 z1 z2 z3 z4 z5 z6 z7 zf uL st1;have st2:Strs #[.string ⟨#[]⟩,.string ⟨#[]⟩,.string ⟨#[82,105,110,103]⟩,.string ⟨#[79,108,100,32,87,97,121]⟩]:=b0g [⟨#[]⟩,⟨#[]⟩,⟨#[82,105,110,103]⟩,⟨#[79,108,100,32,87,97,121]⟩] jM;go_upto_region 16 with(first
    |(go_at_call 73;(with_reducible refine((sQ.box _ _).call 4 oM oM).mono ?_);rintro e Wd⟨q',rfl,A6,Lg,hd⟩;obtain⟨q',rfl⟩:=Int.eq_ofNat_of_zero_le A6;obtain⟨s2,rR,cH⟩:=st2.at_ hd.b0 (q:=q') uM;have lL:=hd.tail;obtain⟨z0,z1,z2,z3,z4,z5,z6,z7⟩:=a6x lL.b0;have zf:=lL.b0.frozen 4))
   refine a0m (λWE jl=> ?_);have nM:=lL.put jl (c':=c5u (41+m) (.slice a9 (n+1) c9) dG s1 s2 false 0 0) rfl;clear sQ lL hd jl z0 z1 z2 z3 z4 z5 z6 z7 zf rR st2;go_upto_region 17 with(first
    |(go_at_call 73;(with_reducible refine(nM.call 4 oM oM).mono ?_);rintro e Wf⟨s,rfl,g0,g1,lM⟩;obtain⟨z0,z1,z2,z3,z4,z5,z6,z7⟩:=a6x lM.b0;have zf:=lM.b0.frozen 5))
   refine a0m (λWG uP=> ?_);have nN:=lM.put uP (c':=c5u (41+m) (.slice a9 (n+1) c9) dG s1 s2 (s==0) 0 0) rfl;clear nM lM uP z0 z1 z2 z3 z4 z5 z6 z7 zf;obtain⟨sb,ni⟩:=zE ((s==0));rw[ni]at nN;go_upto_region 18 with(first
    |(go_at_call 73;(with_reducible refine(nN.call 60 oM oM).mono ?_);rintro e Wh⟨t,rfl,t0,t1,xR⟩;obtain⟨z0,z1,z2,z3,z4,z5,z6,z7⟩:=a6x xR.b0;have zf:=xR.b0.frozen 6))
   refine a0m (λWI Mj=> ?_);have pH:=xR.put Mj (c':=c5u (41+m) (.slice a9 (n+1) c9) dG s1 s2 sb (1+t) 0) rfl;clear nN xR Mj z0 z1 z2 z3 z4 z5 z6 z7 zf;go_upto_region 19 with(first
    |(go_at_call 73;(with_reducible refine(pH.call 3 oM oM).mono ?_);rintro e Wj⟨x,rfl,x0,x1,FJ⟩)
    |(go_at_call 73;(with_reducible refine(FJ.call 2 oM oM).mono ?_);rintro e Wk⟨y,rfl,y0,y1,FK⟩;obtain⟨z0,z1,z2,z3,z4,z5,z6,z7⟩:=a6x FK.b0;have zf:=FK.b0.frozen 7))
   refine a0m (λWL Mk=> ?_);obtain⟨d7,f7,Az⟩:=FK.wd Mk zF;clear pH FJ FK Mk z0 z1 z2 z3 z4 z5 z6 z7 zf;obtain⟨z0,z1,z2,z3,z4,z5,z6,z7⟩:=a6x Az.b0;have f0:fits (41+(m:Int)):=⟨oM,oM⟩;have f6:fits (1+t):=⟨oM,oM⟩;go_wp2_with (first
    |(at_builtin;refine a1a Az.tw qM _ _ 34 qM underlying34 a5p qM Az.s1 qM rfl (d0p f0 fl fB cH f6 f7 Az.s0 oM) rfl oM ?_;intro v9 S9 w9 aX cG))
   go_ret;exact⟨S9,v9,rfl,aX,(Az.evo cG).td,(Az.evo cG).st.ev⟩
theorem DY.fin {n₀ D:Nat}{sv:Vu}{xs:List Int}{S S':BS}{w W1 W':Wd}{L:b0f}{T:SlL}(h:DY n₀ D sv xs S W1 S' W' L T)(h0:Ev noB S w S W1)(hD:w.heap.size<=D):Ev noB S w S' W':=h0.wide h.st.ev (λb hb=>by cases hb;exact hD)
theorem TD.new {S:BS}{w:Wd}{n₀:Nat}{sv:Vu}{xs:List Int}(hT:TW S w)(eM:∀b,S b->n₀<=b)(hn:n₀<=w.heap.size)(hI:Intz n₀ w sv xs):TD S n₀ w.heap.size sv xs (w.alloc (.cells #[sv,.int .i64 0] 137)):=by
 have hb:Below w.heap.size w (w.alloc (.cells #[sv,.int .i64 0] 137)):=(zR _ _).alloc (yR _) _;exact⟨(Ev.of_below (X:=noB) hT hb).ok,⟨0,Nat.zero_le _,Blk.new _ _ _⟩,hI.ints.below (hb.mono hn),hn,hI.len,eM,λh=>Nat.lt_irrefl _ (hT.lt h)⟩
def WsR (n₀ D:Nat)(sv:Vu)(xs:List Int)(S:BS)(w:Wd)(a top g:Nat)(ov kk:Vu)(wr:Wd):Prop :=
 ∃(i:Nat) (S':BS) (n:Nat),i<=top/\kk= .int .i64 (i:Nat)/\n<=a+g*i/\DY n₀ D sv xs S w S' wr [] [(149,ov,n)]
theorem c7f (n₀:Nat)(S:BS)(w:Wd)(hT:TW S w)(eM:∀b,S b->n₀<=b)(fE:n₀<=w.heap.size)(sv:Vu)(xs:List Int)(hI:Intz n₀ w sv xs) :
 Calls prog 74 #[sv] w λe w'=>∃S' v,e= .returned v/\(∃n,SL S' w' 149 v n/\n<=20)/\Ev noB S w S' w':=by
 have sB:=TD.new hT eM fE hI;obtain⟨sa,sc,rfl⟩:∃a c,sv= .slice a xs.length c:=by
  obtain⟨⟨a,c,e,-⟩,-⟩:=hI;exact⟨a,c,e⟩
 have wQ:Ev noB S w S (w.alloc (.cells #[.slice sa xs.length sc,.int .i64 0] 137)):=Ev.of_below hT zC;have Ai:w.heap.size<=w.heap.size:=yR _;have GK:fits 0:=⟨jM,jM⟩;have Ab:fits 1:=⟨jM,jM⟩;have GL:fits (-1):=⟨jM,jM⟩;go_enter func74,ntmps74;go_wp2_with fail;refine a0m (λW1 aH=> ?_);rw[<-aH]at sB wQ;obtain⟨D,hD⟩:=zE w.heap.size;have Db:w.heap.size<=D:=oM;rw[hD]at sB;rw[hD];obtain⟨sv,bH⟩:=zE (Value.slice sa xs.length sc);rw[bH]at sB;rw[bH];clear aH hD Ai bH hI;have Ai:=Db;clear Db;have mI:=sB.dw.add (SL.nil S W1 149);go_loopw [4,5] (λov kk wr=>WsR n₀ D sv xs S W1 0 2 3 ov kk wr) (λ_ kk _=>2-(intOf kk).toNat)
 case atStart=>exact⟨0,S,0,oM,rfl,oM,mI⟩
 case round =>
  clear mI;obtain⟨j,S1,n1,hj,rfl,eP,hd⟩:=hrel;by_cases ag:j<2
  ·have aA:(j:Int)<2:=oM
   go_wp2_with fail;go_loopw [4,6] (λov kk wr=>WsR n₀ D sv xs S W1 (3*j) 3 1 ov kk wr) (λ_ kk _=>3-(intOf kk).toNat)
   case atStart=>exact⟨0,S1,n1,oM,rfl,oM,hd⟩
   case round =>
    clear hd;obtain⟨i,S2,n,hi,rfl,hn,hd⟩:=hrel;by_cases H7:i<3
    ·have Dc:(i:Int)<3:=oM
     go_upto_if 21 with(first
      |(go_at_call 73;(with_reducible refine(hd.call 2 oM oM).mono ?_);rintro e W2⟨q,rfl,q0,q1,dW⟩))
     exact yay
    ·have aY:¬(i:Int)<3:=oM
     go_wp2_with fail;go_roundw
     case rel=>exact⟨j+1,S2,n,oM,by go_num,oM,hd⟩
     case measure=>simp[intOf];omega
  ·have aY:¬(j:Int)<2:=oM
   go_wp2_with fail;go_loopw [4,7] (λov kk wr=>WsR n₀ D sv xs S W1 6 4 1 ov kk wr) (λ_ kk _=>4-(intOf kk).toNat)
   case atStart=>exact⟨0,S1,n1,oM,rfl,oM,hd⟩
   case round =>
    clear hd;obtain⟨i,S2,n,hi,rfl,hn,hd⟩:=hrel;obtain⟨oa,oc,rfl,-⟩:=hd.s0.form;by_cases H7:i<4
    ·have Dc:(i:Int)<4:=oM
     by_cases hlen:n<5
     ·have vo:(n:Int)<5:=oM
      go_upto_if 43 with(first
       |(go_at_call 73;(with_reducible refine(hd.call 2 oM oM).mono ?_);rintro e W2⟨q,rfl,q0,q1,dW⟩))
      exact yay
     ·have vo:¬(n:Int)<5:=oM
      exact yai
    ·have P1:¬(i:Int)<4:=oM
     exact yai
structure OW (S0:BS)(W0:Wd)(S:BS)(W:Wd)(L:b0f)(T:SlL):Prop where
 ev:Ev noB S0 W0 S W
 bx:∀p∈L,Blk W p.1 p.2.1 p.2.2/\¬S p.1/\W0.heap.size<=p.1
 ne:(L.map (·.1)).Nodup
 sl:∀q∈T,SL S W q.1 q.2.1 q.2.2
section
variable {n₀ D:Nat}{sv:Vu}{xs:List Int}{S0 S S':BS}{W0 W W':Wd}{L:b0f}{T:SlL}{B i:Nat}{c c2 c':Array Value}{t t2:Td}{p:Nat×Array Value×TypeId}
theorem OW.init (hT:TW S W):OW S W S W [] []:=⟨Ev.refl hT,λ_ h=>by simp at h,by simp,λ_ h=>by simp at h⟩
theorem OW.tw (h:OW S0 W0 S W L T):TW S W:=h.ev.ok
theorem OW.evo (h:OW S0 W0 S W L T)(he:Ev noB S W S' W'):OW S0 W0 S' W' L T :=
 ⟨h.ev.trans he,λp hp=>by obtain⟨h1,h2,h3⟩:=h.bx p hp;exact⟨he.blk h1 h2 (λh=>h),he.not h1.lt h2,h3⟩,h.ne,λq hq=>he.sl (h.sl q hq)⟩
theorem OW.up (h:OW S0 W0 S W L T)(hb:Below W.heap.size W W'):OW S0 W0 S W' L T:=h.evo (Ev.of_below h.tw hb)
theorem OW.fresh (h:OW S0 W0 S W L T)(hb:Below W.heap.size W W')(hB:W.heap.size<=B)(hk:Blk W' B c t):OW S0 W0 S W' ((B,c,t)::L) T:=by
 have h1:=h.up hb;refine⟨h1.ev,λp hp=> ?_,?_,h1.sl⟩
 ·rcases List.mem_cons.1 hp with rfl|hp
  ·exact⟨hk,λhs=>by have:=h.tw.lt hs;omega,Nat.le_trans h.ev.size hB⟩
  ·exact h1.bx p hp
 ·exact yhc
theorem OW.box (h:OW S0 W0 S W L T)(c:Array Value)(t:Td):OW S0 W0 S (W.alloc (.cells c t)) ((W.heap.size,c,t)::L) T:=h.fresh ((zR _ _).alloc (yR _) _) (yR _) (Blk.new _ _ _)
theorem OW.add (h:OW S0 W0 S W L T){e:Td}{v:Vu}{n:Nat}(hv:SL S W e v n):OW S0 W0 S W L ((e,v,n)::T):=⟨h.ev,h.bx,h.ne,λq hq=>by
 rcases List.mem_cons.1 hq with rfl|hq
 ·exact hv
 ·exact h.sl q hq⟩
theorem OW.tail (h:OW S0 W0 S W (p::L) T):OW S0 W0 S W L T:=⟨h.ev,λq hq=>h.bx q (List.mem_cons_of_mem _ hq),(List.nodup_cons.1 h.ne).2,h.sl⟩
theorem OW.tailT {q:TypeId×Value×Nat}(h:OW S0 W0 S W L (q::T)):OW S0 W0 S W L T:=⟨h.ev,h.bx,h.ne,λq hq=>h.sl q (List.mem_cons_of_mem _ hq)⟩
theorem OW.swap {q:Nat×Array Value×TypeId}(h:OW S0 W0 S W (p::q::L) T):OW S0 W0 S W (q::p::L) T:=⟨h.ev,λr hr=>h.bx r (by
 simp only[List.mem_cons]at hr ⊢;rcases hr with h|h|h
 ·exact .inr (.inl h)
 ·exact .inl h
 ·exact .inr (.inr h)),by
  have:=h.ne;simp only[List.map_cons,List.nodup_cons,List.mem_cons,not_or]at this ⊢;exact⟨⟨λe=>this.1.1 e.symm,this.2.1⟩,this.1.2,this.2.2⟩,h.sl⟩
theorem OW.write (h:OW S0 W0 S W ((B,c,t)::L) T)(hg:W.grownBy W' (some B))(hk:Blk W' B c2 t2):OW S0 W0 S W' ((B,c2,t2)::L) T:=by
 obtain⟨dq,aG,bZ⟩:=h.bx _ (List.mem_cons_self ..);have aM:∀b,b≠B->b<W.heap.size->W'.heap[b]? =W.heap[b]? :=λb hb hl=>hg.block b hl (λe=>hb (Option.some.inj e))
 have bC:=h.ev.own hg (λr e=>by cases e;exact⟨aG,bZ⟩);have bO:Shp S W W':=λb c e hb hc=>⟨c,(aM b (λe=>aG (by subst e;exact hb)) hc.lt).trans hc,rfl⟩
 refine⟨bC,λp hp=> ?_,h.ne,λq hq=>(h.sl q hq).mono (λ_ h=>h) bO⟩;rcases List.mem_cons.1 hp with rfl|rW
 ·exact⟨hk,aG,bZ⟩
 ·obtain⟨k1,k2,k4⟩:=h.bx p (List.mem_cons_of_mem _ rW)
  refine⟨k1.kept hg (λe=> ?_),k2,k4⟩;exact yir
theorem OW.set (h:OW S0 W0 S W ((B,c,t)::L) T)(i:Nat)(v:Vu)(hc:c.setIfInBounds i v=c'):OW S0 W0 S (W.setCell ⟨B,i,none⟩ v) ((B,c',t)::L) T :=
 h.write (a0z W B i v) (hc▸(h.bx _ (List.mem_cons_self ..)).1.set i v)
theorem OW.put {v:Vu}(h:OW S0 W0 S W ((B,c,t)::L) T)(hW:W'=W.setCell ⟨B,i,none⟩ v)(hc:c.setIfInBounds i v=c'):OW S0 W0 S W' ((B,c',t)::L) T:=hW▸h.set i v hc
theorem OW.b0 (h:OW S0 W0 S W ((B,c,t)::L) T):Blk W B c t:=(h.bx _ (List.mem_cons_self ..)).1
theorem OW.b1 (h:OW S0 W0 S W (p::(B,c,t)::L) T):Blk W B c t:=h.tail.b0
theorem OW.s0 {e:Td}{v:Vu}{n:Nat}(h:OW S0 W0 S W L ((e,v,n)::T)):SL S W e v n:=h.sl _ (List.mem_cons_self ..)
theorem OW.s1 {q:TypeId×Value×Nat}{e:Td}{v:Vu}{n:Nat}(h:OW S0 W0 S W L (q::(e,v,n)::T)):SL S W e v n:=h.tailT.s0
theorem OW.s2 {q q2:TypeId×Value×Nat}{e:Td}{v:Vu}{n:Nat}(h:OW S0 W0 S W L (q::q2::(e,v,n)::T)):SL S W e v n:=h.tailT.tailT.s0
theorem OW.low (h:OW noB W0 S W L T):Below W0.heap.size W0 W:=h.ev.low
theorem OW.lows (h:OW noB W0 S W L T)(b:Nat)(hb:S b):W0.heap.size<=b:=by
 rcases h.ev.new b hb with h1|h1
 ·exact h1.elim
 ·exact h1
theorem OW.draw (h:OW S0 W0 S W L T)(eM:∀b,S b->n₀<=b)(hn:n₀<=W0.heap.size)(hI:Intz n₀ W sv xs):DY n₀ W.heap.size sv xs S0 W0 S (W.alloc (.cells #[sv,.int .i64 0] 137)) L T:=by
 have hb:Below W.heap.size W (W.alloc (.cells #[sv,.int .i64 0] 137)):=(zR _ _).alloc (yR _) _;have h1:=h.up hb;refine⟨⟨TD.new h.tw eM (Nat.le_trans hn h.ev.size) hI,h1.ev.any,hn⟩,λp hp=> ?_,h.ne,h1.sl⟩;obtain⟨k1,k2,k3⟩:=h1.bx p hp;exact⟨k1,k2,λe=>by have:=(h.bx p hp).1.lt;omega,k3⟩
theorem DY.ow (h:DY n₀ D sv xs S0 W0 S W L T)(hT:TW S0 W0)(hD:W0.heap.size<=D):OW S0 W0 S W L T :=
 ⟨h.fin (Ev.refl hT) hD,λp hp=>by obtain⟨k1,k2,-,k4⟩:=h.bx p hp;exact⟨k1,k2,k4⟩,h.ne,h.sl⟩
end
theorem Mat.take {n₀:Nat}{W:Wd}{a:Option Addr}{cap:Nat}{rows:List (Value×List Int)}(h:Mat n₀ W (.slice a rows.length cap) rows)(m:Nat)(hm:m<=rows.length):Mat n₀ W (.slice a m cap) (rows.take m):=by
 obtain⟨a',aI,e,hc,hr⟩:=h
 cases e;refine⟨a,cap,by rw[List.length_take,Nat.min_eq_left hm],by rw[List.length_take];omega,λj hj=> ?_⟩;rw[List.length_take]at hj;rw[List.getElem_take];exact hr j oM
def b4x (rows:List (Value×List Int))(k:Nat):Value:=((rows[k]?).map (·.1)).getD (.slice none 0 0)
def d8q (rows:List (Value×List Int))(k:Nat):List Int:=((rows[k]?).map (·.2)).getD []
theorem b0h {n₀:Nat}{w:Wd}{lv:Vu}{rows:List (Value×List Int)}(hM:Mat n₀ w lv rows)(k:Nat):Intz n₀ w (b4x rows k) (d8q rows k):=by
 obtain⟨a,cap,rfl,hc,ae⟩:=hM;unfold b4x d8q;by_cases h:k<rows.length
 ·obtain⟨b,off,rfl,hb,c0,hi⟩:=ae k h
  rw[List.getElem?_eq_getElem h];exact hi
 ·rw[List.getElem?_eq_none oM]
  exact Intz.nil _ _
theorem b7d (n₀:Nat)(w:Wd)(lv:Vu)(rows:List (Value×List Int))(hM:Mat n₀ w lv rows)(k:Nat) :
 Calls prog 72 #[lv,.int .i64 (k:Nat)] w λe w'=>e= .returned (b4x rows k)/\w=w':=by
 obtain⟨a,cap,rfl,hc,ae⟩:=hM;go_enter func72,ntmps72;by_cases h:k<rows.length
 ·obtain⟨b,off,rfl,hb,c0,hi⟩:=ae k h
  have hle:¬(rows.length:Int)<=(k:Int):=oM;have ag:(k:Int)<(rows.length:Int):=oM;have hv:b4x rows k=rows[k].1:=by unfold b4x;rw[List.getElem?_eq_getElem h];rfl
  rw[hv];obtain⟨row,H8⟩:=zE (rows[k].1);rw[H8]at c0;rw[H8];clear ae H8 hi hv;exact ybd
 ·have hle:(rows.length:Int)<=(k:Int):=oM
  have hv:b4x rows k= .slice none 0 0:=by unfold b4x;rw[List.getElem?_eq_none oM];rfl
  rw[hv];clear ae hv;exact ybd
abbrev e0p :Array Value:= #[.slice none 0 0,.slice none 0 0,.slice none 0 0,.slice none 0 0]
end
end Go.Proofs.YtfocdbjceedagaaGreatDoor
