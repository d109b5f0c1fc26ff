/-
  Parts.
-/
import Derived.Test.YtfocdbjceedagaaGreatDoorCbd
import Derived.Test.YtfocdbjceedagaaGreatDoorCbe
set_option linter.unusedVariables false
set_option linter.unusedSimpArgs false
set_option maxHeartbeats 4000000
set_option maxRecDepth 100000
namespace Go.Proofs.YtfocdbjceedagaaGreatDoor
open Tryz
section
open Go Go.RowKit Go.Shelf Go.Lib
theorem d6y {s:Sh}{pl:Pn}{wd:List Dt}(qs:List Pc):∀st,cdN s pl wd qs=some st->(qs.map Pc.id).Nodup:=by
 refine a4s (Q:=λqs=>∀st,cdN s pl wd qs=some st->(qs.map Pc.id).Nodup) ?_ (λrs p ih=> ?_) qs
 ·intro st _
  exact List.nodup_nil
 ·intro st h
  rw[a9l]at h
  cases h1:cdN s pl wd rs with
  |none=>rw[h1]at h;cases h
  |some st1 =>
   rw[h1]at h;have h2:a2l (pfS s) pl st1 p=some st:=h;obtain⟨hl,-⟩:=d7n rs st1 h1;unfold a2l at h2;split at h2
   ·cases h2
   ·rename_i hn
    rw[hl,List.mem_reverse]at hn;rw[List.map_append,List.nodup_append];refine⟨ih st1 h1,by simp,λa ha b hb e=>hn ?_⟩;simp only[List.map_cons,List.map_nil,List.mem_singleton]at hb;rw[<-hb,<-e];exact ha
theorem d3f {s:Sh}{pl:Pn}{wd:List Dt}{ps:List Pc}(h:cdF (pfS s) pl wd ps=true):(ps.map Pc.id).Nodup:=by
 cases h1:cdN s pl wd ps with
 |none =>
  unfold cdF at h;rw[show ps.foldlM (a2l (pfS s) pl) ⟨wd,0,[]⟩=none from h1]at h
  cases h
 |some st=>exact d6y ps st h1
theorem c8r (s:Sh)(ev fv wv dv kv lv:Vu)(pa:Option Addr)(n pc:Nat)(c:Int)(hc:a2m s n=c)(hs:c≠0)(w:Wd) :
 Zc prog 20 #[b3t ev fv wv (.slice pa n pc),shV s,a1t dv kv lv] w (.int .i64 c):=by
 have fV:=λX=>a7n s ev fv wv pa n pc X
 rw[hc]at fV;have fT:(c != 0)=true:=by simpa using hs
 clear hc hs;go_enter func20,ntmps20;go_upto_region 1 with fail;have hB:=Bx3.init w ev fv wv (.slice pa n pc) s dv kv lv;obtain⟨W1,aH⟩:=zE (((w.alloc (.cells #[ev,fv,wv,.slice pa n pc] 37)).alloc (.cells #[.int .i64 s.ax,.int .i64 s.ay,.int .i64 s.st,.int .i64 s.w,.int .i64 s.h,.int .i64 s.g] 28)).alloc (.cells #[dv,kv,lv] 45));rw[aH]at hB ⊢;clear aH;obtain⟨⟨m0,m1,m2,m3⟩,⟨s0,s1,s2,s3,s4,s5⟩,-⟩:=hB.cells;go_wp2_with (first
  |(go_at_call 38;(with_reducible refine(fV _).mono ?_);rintro e W2⟨rfl,az⟩))
 go_ret;exact⟨rfl,(hB.up az).bel⟩
theorem c1o (s:Sh)(hs:a1h s=0)(mH:s.g<=4)(ev fv wv pv dv kv lv:Vu)(l:List Pc)(ws:List Wy)(pl:Pn)(w:Wd)(hL:Lst plE w.heap.size w pv l)(hF:Frm pv l.length)(hl:l.length<=80)(a7:∀p∈l,PcOk p/\p.cls.size<=1000)
 (hW:Wys w.heap.size w wv ws) (hlen:ws.length<=100) (aO:∀y∈ws,y.line.length<=100) (hP:PlanIn w (a1t dv kv lv) pl) (bR:∀d∈pl.dots,Sm d) (SV:pl.dots.length<=10000) :
 Zc prog 20 #[b3t ev fv wv pv,shV s,a1t dv kv lv] w (.int .i64 (a8w s.g (pfS s) a2s pl (wdF s ws) (a0q l))):=by
 obtain⟨r,hr⟩:=zE (a8w s.g (pfS s) a2s pl (wdF s ws) (a0q l));rw[hr];obtain⟨Vt,Vv,Vw,e_,⟨hd,mo⟩,⟨hk,DX⟩,cZ,jZ⟩:=hP.ex;simp only[Value.agg.injEq,Array.mk.injEq,List.cons.injEq,and_true]at e_;obtain⟨rfl,rfl,rfl⟩:=e_;have vO:∀d∈pl.dots,fits d.x/\fits d.y:=λd h=>by have h:=bR d h;exact⟨⟨by have:=h.x0;omega,by have:=h.x1;omega⟩,by have:=h.y0;omega,by have:=h.y1;omega⟩
 have fV:=λpa pc X=>a7n s ev fv wv pa l.length pc X
 unfold a2m at fV;rw[if_pos hs,if_neg oM]at fV;have AW:=λX (hb:Below w.heap.size w X)=>c8q s hs ev fv wv pv dv kv lv l ws pl X (hL.up hb) hF oM a7 (hW.up hb hb.size) hlen aO (hd.up hb) (cZ.up hb)
 have oT:=λX (hb:Below w.heap.size w X)=>d2w s mH dv pl.dots X (hd.up hb) vO oM
 have cL:=λX (hb:Below w.heap.size w X)=>d3a ev fv wv pv dv kv lv l pl X (hL.up hb) hF oM a7 (hk.up hb) (cZ.up hb)
 have j4:=λ(hn:((a0q l).map Pc.id).Nodup) X (hb:Below w.heap.size w X)=>c1n s hs mH ev fv wv pv dv kv lv l pl X (hL.up hb) hF oM a7 (hd.up hb) vO oM (cZ.up hb) hn
 have il:=Lib.hid λh:cdF (pfS s) pl (wdF s ws) (a0q l)=true=>d3f h
 unfold a8w at hr;obtain⟨pa,pc,rfl,-⟩:=hL.form;obtain⟨n,hn⟩:=zE l.length;rw[hn]at fV AW cL j4 ⊢;clear hL hF a7 hW hlen aO hP bR SV vO hd mo hk DX cZ jZ hl hs hn;go_enter func20,ntmps20;go_upto_region 1 with fail;have hB:=Bx3.init w ev fv wv (.slice pa n pc) s dv kv lv;obtain⟨W1,aH⟩:=zE (((w.alloc (.cells #[ev,fv,wv,.slice pa n pc] 37)).alloc (.cells #[.int .i64 s.ax,.int .i64 s.ay,.int .i64 s.st,.int .i64 s.w,.int .i64 s.h,.int .i64 s.g] 28)).alloc (.cells #[dv,kv,lv] 45));rw[aH]at hB ⊢;clear aH;obtain⟨⟨m0,m1,m2,m3⟩,⟨s0,s1,s2,s3,s4,s5⟩,-⟩:=hB.cells;go_upto_region 4 with(first
  |(go_at_call 38;(with_reducible refine(fV _ _ _).mono ?_);rintro e W2⟨rfl,az⟩))
 have aG:=hB.up az;clear m0 m1 m2 m3 s0 s1 s2 s3 s4 s5 az hB;obtain⟨⟨m0,m1,m2,m3⟩,⟨s0,s1,s2,s3,s4,s5⟩,p0,p1,p2⟩:=aG.cells
 cases h1:cdF (pfS s) pl (wdF s ws) (a0q l)
 ·simp only[h1]at AW
  rw[h1,if_neg jM]at hr;subst hr;clear oT cL j4 h1;go_wp2_with (first
   |(go_at_call 52;(with_reducible refine(AW _ aG.bel).mono ?_);rintro e W3⟨rfl,aV⟩))
  go_ret;exact⟨rfl,(aG.up aV).bel⟩
 have iQ:=il.out h1;simp only[h1]at AW;rw[h1,if_pos rfl]at hr;replace j4:=j4 iQ;clear h1 il iQ;go_upto_region 6 with(first
  |(go_at_call 52;(with_reducible refine(AW _ aG.bel).mono ?_);rintro e W3⟨rfl,aV⟩))
 have aN:=aG.up aV;clear m0 m1 m2 m3 s0 s1 s2 s3 s4 s5 p0 p1 p2 aV AW;obtain⟨⟨m0,m1,m2,m3⟩,⟨s0,s1,s2,s3,s4,s5⟩,p0,p1,p2⟩:=aN.cells
 cases h2:b1m s.g pl.dots
 ·simp only[h2]at oT
  rw[h2,if_neg jM]at hr;subst hr;clear cL j4 h2;go_wp2_with (first
   |(go_at_call 53;(with_reducible refine(oT _ aN.bel).mono ?_);rintro e W4⟨rfl,eC⟩))
  go_ret;exact⟨rfl,(aN.up eC).bel⟩
 simp only[h2]at oT;rw[h2,if_pos rfl]at hr;clear h2;go_upto_region 8 with(first
  |(go_at_call 53;(with_reducible refine(oT _ aN.bel).mono ?_);rintro e W4⟨rfl,eC⟩))
 have bZ:=aN.up eC;clear m0 m1 m2 m3 s0 s1 s2 s3 s4 s5 p0 p1 p2 eC oT;obtain⟨⟨m0,m1,m2,m3⟩,⟨s0,s1,s2,s3,s4,s5⟩,p0,p1,p2⟩:=bZ.cells;by_cases h3:a1p a2s pl (a0q l)=pl.keys
 rotate_left 1
 ·simp only[decide_eq_false h3]at cL
  rw[if_neg h3]at hr;subst hr;clear j4 h3;go_wp2_with (first
   |(go_at_call 54;(with_reducible refine(cL _ bZ.bel).mono ?_);rintro e W5⟨rfl,aZ⟩))
  go_ret;exact⟨rfl,(bZ.up aZ).bel⟩
 simp only[decide_eq_true h3]at cL;rw[if_pos h3]at hr;clear h3;obtain⟨b4,h4⟩:=zE (a1r s.g (pfS s) pl (a0q l));simp only[h4]at j4;rw[h4]at hr;clear h4;have SX:=λW5 (aZ:Below W4.heap.size W4 W5)=>j4 W5 (bZ.up aZ).bel
 go_wp2_with (first
  |(go_at_call 54;(with_reducible refine(cL _ bZ.bel).mono ?_);rintro e W5⟨rfl,aZ⟩
    have fQ:=bZ.up aZ;clear m0 m1 m2 m3 s0 s1 s2 s3 s4 s5 p0 p1 p2;obtain⟨⟨m0,m1,m2,m3⟩,⟨s0,s1,s2,s3,s4,s5⟩,p0,p1,p2⟩:=fQ.cells)
  |(go_at_call 55;(with_reducible refine(j4 _ fQ.bel).mono ?_);rintro e W6⟨rfl,iT⟩
    have qK:=fQ.up iT
    cases b4))
 all_goals first
  |(go_ret;exact⟨by rw[<-hr];rfl,qK.bel⟩)
  |(go_wp2_with fail;go_ret;exact⟨by rw[<-hr];rfl,qK.bel⟩)
theorem e0a (op:BinOp)(a b:Operand)(xs ys:Array Value)(w:Wd):(eqGuard op 68 a b (.agg xs) (.agg ys)).run prog w= .ok () w:=run_eqGuard_agg w op 68 a b xs ys zM
theorem d3g {α:Type}{a b:List α}(hl:a.length=b.length){k:Nat}(hk:k<a.length)(h:a.take k=b.take k)(he:a[k]=b[k]'(by omega)):a.take (k+1)=b.take (k+1):=by
 rw[List.take_succ_eq_append_getElem hk,List.take_succ_eq_append_getElem (show k<b.length by omega),h,he]
theorem c6h {α:Type}{a b:List α}(hl:a.length=b.length)(h:a.take a.length=b.take a.length):a=b:=by
 rw[List.take_length,hl,List.take_length]at h;exact h
theorem d3h (v1 v2:Vu)(pp q:Pn)(w:Wd)(h1:PlanIn w v1 pp)(h2:PlanIn w v2 q) :
 Zc prog 12 #[v1,v2] w (.bool (c0i pp q)):=by
 obtain⟨r,hr⟩:=zE (c0i pp q);rw[hr];unfold c0i at hr;replace hr:=Lib.hid hr;obtain⟨zv,Vx,Vy,rfl,⟨zw,-⟩,⟨mT,-⟩,mU,-⟩:=h1.ex;obtain⟨vN,oP,QM,rfl,⟨zx,-⟩,⟨mV,-⟩,mW,-⟩:=h2.ex;have Vz:=mT.mil;have wF:=mU.mil;have SY:=mV.mil;have SZ:=mW.mil;obtain⟨vY,vZ,rfl,-⟩:=mT.form;obtain⟨we,wg,rfl,-⟩:=mV.form;obtain⟨wh,wj,rfl,-⟩:=mU.form;obtain⟨wk,wm,rfl,-⟩:=mW.form;obtain⟨Nt,Nu,rfl,-⟩:=zw.form;obtain⟨Nv,Nw,rfl,-⟩:=zx.form;have bR:=λX (h:Below w.heap.size w X)=>c1m _ _ pp.dots q.dots X (zw.up h) (zx.up h)
 clear zw zx h1 h2;go_enter func12,ntmps12;go_upto_region 1 with fail;obtain⟨zv,EW⟩:=zE (Value.slice Nt pp.dots.length Nu);obtain⟨vN,ya⟩:=zE (Value.slice Nv q.dots.length Nw);rw[EW,ya]at bR ⊢;have k2:=(Blk.new w #[zv,.slice vY pp.keys.length vZ,.slice wh pp.left.length wj] 45).alloc (.cells #[vN,.slice we q.keys.length wg,.slice wk q.left.length wm] 45);have k3:=Blk.new (w.alloc (.cells #[zv,.slice vY pp.keys.length vZ,.slice wh pp.left.length wj] 45)) #[vN,.slice we q.keys.length wg,.slice wk q.left.length wm] 45;have hb:Below w.heap.size w ((w.alloc (.cells #[zv,.slice vY pp.keys.length vZ,.slice wh pp.left.length wj] 45)).alloc (.cells #[vN,.slice we q.keys.length wg,.slice wk q.left.length wm] 45)):=((zR _ _).alloc (yR _) _).alloc vM _;simp only[World.size_alloc]at k3;obtain⟨W,hW⟩:=zE ((w.alloc (.cells #[zv,.slice vY pp.keys.length vZ,.slice wh pp.left.length wj] 45)).alloc (.cells #[vN,.slice we q.keys.length wg,.slice wk q.left.length wm] 45));rw[hW]at k2 k3 hb ⊢;clear hW EW ya;obtain⟨B2,aG⟩:=zE w.heap.size;rw[aG]at k2 k3 ⊢;obtain⟨m0,m1,m2⟩:=zN3 k2;obtain⟨n0,n1,n2⟩:=zN3 k3;obtain⟨bd,kr⟩:=zE (decide (pp.dots=q.dots));simp only[kr]at bR;have pF:=hr.out;rw[kr]at pF;replace hr:=Lib.hid pF;clear pF kr;go_upto_region 2 with(first
  |(go_at_call 26;(with_reducible refine(bR _ hb).mono ?_);rintro e W1⟨rfl,aw⟩))
 have gK:=hb.trans (aw.mono hb.size);replace k2:=k2.below aw k2.lt;replace k3:=k3.below aw k3.lt;clear m0 m1 m2 n0 n1 n2 hb aw bR;obtain⟨m1,m2⟩:W1.cell? ⟨B2,1,none⟩=some (.slice vY pp.keys.length vZ)/\W1.cell? ⟨B2,2,none⟩=some (.slice wh pp.left.length wj):=⟨k2.cell 1,k2.cell 2⟩;obtain⟨n1,n2⟩:W1.cell? ⟨B2+1,1,none⟩=some (.slice we q.keys.length wg)/\W1.cell? ⟨B2+1,2,none⟩=some (.slice wk q.left.length wm):=⟨k3.cell 1,k3.cell 2⟩
 cases bd
 ·obtain rfl:r=false:=hr.out.symm.trans (Bool.false_and _)
  clear hr;exact yla
 by_cases aR:pp.keys.length=q.keys.length
 rotate_left 1
 ·have hq:((pp.keys.length:Int) != (q.keys.length:Int))=true:=by simp;omega
  obtain rfl:r=false:=by
   rw[<-hr.out,decide_eq_false λe=>aR (congrArg List.length e)];rfl
  clear hr aR;exact yla
 have Fu:((pp.keys.length:Int) != (q.keys.length:Int))=false:=by simp[aR]
 by_cases im:pp.left.length=q.left.length
 rotate_left 1
 ·have hq:((pp.left.length:Int) != (q.left.length:Int))=true:=by simp;omega
  obtain rfl:r=false:=by
   rw[<-hr.out,decide_eq_false (p:=pp.left=q.left) λe=>im (congrArg List.length e),Bool.and_false];rfl
  replace aR:=Lib.hid aR;clear hr im;exact yla
 have S4:((pp.left.length:Int) != (q.left.length:Int))=false:=by simp[im]
 have zy:=Lib.hid aR;have zz:=Lib.hid im;have kt:(pp.keys.length:Int)=(q.keys.length:Int):=oM;replace kt:=Lib.hid kt;clear aR im;go_wp2_with fail;clear m1 m2 n1 n2 Fu S4;go_loopw [6] (λkk wr=>∃k:Nat,k<=pp.keys.length/\kk= .int .i64 (k:Nat)/\Below w.heap.size w wr/\Blk wr B2 #[zv,.slice vY pp.keys.length vZ,.slice wh pp.left.length wj] 45/\Blk wr (B2+1) #[vN,.slice we q.keys.length wg,.slice wk q.left.length wm] 45/\Hid (pp.keys.take k=q.keys.take k)) (λkk _=>pp.keys.length-(intOf kk).toNat)
 case atStart=>exact⟨0,Nat.zero_le _,rfl,gK,k2,k3,Lib.hid rfl⟩
 case round =>
  clear k2 k3 gK;obtain⟨k,hk,rfl,gK,k2,k3,eS⟩:=hrel;have c1:wr.cell? ⟨B2,1,none⟩=some (.slice vY pp.keys.length vZ):=k2.cell 1;have d1:wr.cell? ⟨B2+1,1,none⟩=some (.slice we q.keys.length wg):=k3.cell 1;have uU:=gK.size;by_cases ag:k<pp.keys.length
  ·have aA:(k:Int)<(pp.keys.length:Int):=oM
   have eL:k<q.keys.length:=by have:=zy.out;omega
   have nI:(k:Int)<(q.keys.length:Int):=oM;obtain⟨b1,o1,yO,iI,-,-,cj⟩:=(mT.below gK).some_ oM;obtain⟨b2,o2,ke,ew,-,-,bK⟩:=(mV.below gK).some_ oM;simp only[Value.slice.injEq,true_and]at iI ew;obtain⟨rfl,rfl⟩:=iI;obtain⟨rfl,rfl⟩:=ew;have e1:=cj k ag;have e2:=bK k eL;have aF:=Lib.hid λh:pp.keys[k]=q.keys[k]=>d3g zy.out ag eS.out h
   have aK:=Lib.hid λh:pp.keys[k]≠q.keys[k]=>(show r=false by
    rw[<-hr.out,decide_eq_false (p:=pp.keys=q.keys) λe=>h (by simp only[e])];rfl)
   obtain⟨x,hx⟩:=zE (pp.keys[k]);obtain⟨y,hy⟩:=zE (q.keys[k]);rw[hx]at e1;rw[hy]at e2;rw[hx,hy]at aF aK;obtain⟨xn,xp,xc⟩:=x;obtain⟨yn,yp,yc⟩:=y;obtain⟨x0,x1,x2⟩:=c1r e1;obtain⟨y0,y1,y2⟩:=c1r e2;have hg:=d2u;have gi:=d8y xn xp xc yn yp yc;clear cj bK e1 e2 hx hy;by_cases heq:(⟨xn,xp,xc⟩:Ke)=⟨yn,yp,yc⟩
   ·exact ydb
   ·exact yey
  ·obtain rfl:k=pp.keys.length:=oM
   have aY:¬(pp.keys.length:Int)<(pp.keys.length:Int):=oM;have Ex:=c6h zy.out eS.out;have bB:=hr.out;rw[decide_eq_true Ex,Bool.true_and,Bool.true_and]at bB;replace hr:=Lib.hid bB;clear Ex bB;go_wp2_with fail;clear c1 d1 uU aY eS;go_loopw [7] (λkk wr=>∃k:Nat,k<=pp.left.length/\kk= .int .i64 (k:Nat)/\Below w.heap.size w wr/\Blk wr B2 #[zv,.slice vY pp.keys.length vZ,.slice wh pp.left.length wj] 45/\Blk wr (B2+1) #[vN,.slice we q.keys.length wg,.slice wk q.left.length wm] 45/\Hid (pp.left.take k=q.left.take k)) (λkk _=>pp.left.length-(intOf kk).toNat)
   case atStart=>exact⟨0,Nat.zero_le _,rfl,gK,k2,k3,Lib.hid rfl⟩
   case round =>
    clear k2 k3 gK;obtain⟨k,hk,rfl,gK,k2,k3,eS⟩:=hrel;have c1:wr.cell? ⟨B2,2,none⟩=some (.slice wh pp.left.length wj):=k2.cell 2;have d1:wr.cell? ⟨B2+1,2,none⟩=some (.slice wk q.left.length wm):=k3.cell 2;have uU:=gK.size;by_cases ag:k<pp.left.length
    ·have aA:(k:Int)<(pp.left.length:Int):=oM
     have eL:k<q.left.length:=by have:=zz.out;omega
     have nI:(k:Int)<(q.left.length:Int):=oM;obtain⟨b1,o1,yO,iI,-,-,cj⟩:=(mU.below gK).some_ oM;obtain⟨b2,o2,ke,ew,-,-,bK⟩:=(mW.below gK).some_ oM;simp only[Value.slice.injEq,true_and]at iI ew;obtain⟨rfl,rfl⟩:=iI;obtain⟨rfl,rfl⟩:=ew;have e1:=cj k ag;have e2:=bK k eL;have aF:=Lib.hid λh:pp.left[k]=q.left[k]=>d3g zz.out ag eS.out h
     have aK:=Lib.hid λh:pp.left[k]≠q.left[k]=>hr.out.symm.trans (decide_eq_false (p:=pp.left=q.left) λe=>h (by simp only[e]))
     obtain⟨x,hx⟩:=zE (pp.left[k]);obtain⟨y,hy⟩:=zE (q.left[k]);rw[hx]at e1;rw[hy]at e2;rw[hx,hy]at aF aK;obtain⟨xp,xk,xi⟩:=x;obtain⟨yp,yk,yi⟩:=y;obtain⟨x0,x1,x2⟩:=c1r e1;obtain⟨y0,y1,y2⟩:=c1r e2;have hg:=e0a;have gi:=e1b xp xk xi yp yk yi;clear cj bK e1 e2 hx hy;by_cases heq:(⟨xp,xk,xi⟩:Lf)=⟨yp,yk,yi⟩
     ·exact ydb
     ·exact yey
    ·obtain rfl:k=pp.left.length:=oM
     have aY:¬(pp.left.length:Int)<(pp.left.length:Int):=oM;obtain rfl:r=true:=hr.out.symm.trans (decide_eq_true (c6h zz.out eS.out));clear hr eS;go_wp2_with fail;go_ret;exact⟨rfl,aG▸gK⟩
section
variable {P:Program}{α:Type}{E:El α}{st:Td}
end
abbrev q33 (zz0 zz1 zz2 zz3 zz4 zz5 zz6 zz7 zz8:Int):Array Value:= #[.int .i64 zz0,.int .i64 zz1,.int .i64 zz2,.int .i64 zz3,.int .i64 zz4,.int .i64 zz5,.int .i64 zz6,.int .i64 zz7,.int .i64 zz8]
def PlX (n:Nat)(v:Vu)(W:Wd):Prop:=∃d k l pl,v=a1t d k l/\PlanIn W (a1t d k l) pl/\PlW n pl
theorem PlX.up {n:Nat}{v:Vu}{W W':Wd}(h:PlX n v W)(hb:Below W.heap.size W W'):PlX n v W':=by
 obtain⟨d,k,l,pl,h1,h2,h3⟩:=h;exact⟨d,k,l,pl,h1,h2.up hb,h3⟩
structure OnR (wr:Wd)(B9 B11 BQ:Nat)(d9 k9 l9 r0 r1 r2:Vu)(zz0 zz1 zz2 zz3 zz4 zz5 zz6 zz7 zz8:Int)(pl:Pn)(W:Wd):Prop where
 bel:Below wr.heap.size wr W
 p:Blk W B9 #[d9,k9,l9] 45
 r:Blk W B11 #[r0,r1,r2] 45
 q:Blk W BQ (q33 zz0 zz1 zz2 zz3 zz4 zz5 zz6 zz7 zz8) 59
 pi:PlanIn W (a1t d9 k9 l9) pl
 ri:PlX 0 (a1t r0 r1 r2) W
theorem OnR.up {wr W W':Wd}{B9 B11 BQ:Nat}{d9 k9 l9 r0 r1 r2:Vu}{zz0 zz1 zz2 zz3 zz4 zz5 zz6 zz7 zz8:Int}{pl:Pn}(h:OnR wr B9 B11 BQ d9 k9 l9 r0 r1 r2 zz0 zz1 zz2 zz3 zz4 zz5 zz6 zz7 zz8 pl W)(hb:Below W.heap.size W W'):OnR wr B9 B11 BQ d9 k9 l9 r0 r1 r2 zz0 zz1 zz2 zz3 zz4 zz5 zz6 zz7 zz8 pl W' :=
 ⟨h.bel.trans (hb.mono h.bel.size),h.p.below hb h.p.lt,h.r.below hb h.r.lt,h.q.below hb h.q.lt,h.pi.up hb,h.ri.up hb⟩
theorem d7o {n:Nat}{v:Vu}{pl:Pn}{W:Wd}(h:PlanIn W v pl)(hw:PlW n pl):PlX n v W:=by
 obtain⟨d,k,l,e,-⟩:=h.ex;exact⟨d,k,l,pl,e,e▸h,hw⟩
theorem PlX.mono {n m:Nat}{v:Vu}{W:Wd}(h:PlX n v W)(hn:n<=m):PlX m v W:=by
 obtain⟨d,k,l,pl,h1,h2,h3⟩:=h;exact⟨d,k,l,pl,h1,h2,h3.mono hn⟩
def ckZ (s:Sh)(ws:List Wy)(l:List Pc)(pl:Pn):Int:=if a2m s l.length=0 then a8w s.g (pfS s) a2s pl (wdF s ws) (a0q l)else a2m s l.length
theorem d3i {W:Wd}{wv pv:Vu}{s:Sh}{l:List Pc}{ws:List Wy}(hM:MapOd W wv pv l ws):PlW 0 (c8p s ws l):=by
 unfold c8p;by_cases h:a2m s l.length=0
 ·obtain⟨hs,hl⟩:=a6g h
  rw[if_pos h];exact e1t (a4l hs) hM.len (λp hp=>(hM.ok p hp).1) (λy hy=>(hM.wo y hy).1)
 ·rw[if_neg h]
  exact e1u
theorem d3j (s:Sh)(f0:fits s.ax)(f1:fits s.ay)(ev fv wv pv dv kv lv:Vu)(l:List Pc)(ws:List Wy)(pl:Pn)(n:Nat)(hn:n<=5)(w:Wd)(hM:MapOd w wv pv l ws)(hPow:∀W,Below w.heap.size w W->Pow W)(hP:PlanIn w (a1t dv kv lv) pl)(hw:PlW n pl) :
 Zc prog 19 #[b3t ev fv wv pv,shV s,a1t dv kv lv] w (.int .i64 (ckZ s ws l pl)):=by
 obtain⟨pa,pc,rfl,-⟩:=hM.p.form;unfold ckZ;by_cases h:a2m s l.length=0
 ·obtain⟨hs,hl⟩:=a6g h
  rw[if_pos h];exact a6e s f0 f1 hs ev fv wv _ _ l ws pl w hM.p hM.frm hl hM.ok hM.w (λy hy=>(hM.wo y hy).1) hM.wl (λy hy=>(hM.wo y hy).2) hPow hP (hw.sm oM) hw.dl hw.lf _ rfl
 ·rw[if_neg h]
  exact c0p s f0 f1 ev fv wv dv kv lv pa l.length pc _ rfl h w
theorem c6i (s:Sh)(ev fv wv pv dv kv lv:Vu)(l:List Pc)(ws:List Wy)(pl:Pn)(n:Nat)(hn:n<=5)(w:Wd)(hM:MapOd w wv pv l ws)(hP:PlanIn w (a1t dv kv lv) pl)(hw:PlW n pl) :
 Zc prog 20 #[b3t ev fv wv pv,shV s,a1t dv kv lv] w (.int .i64 (ckZ s ws l pl)):=by
 obtain⟨pa,pc,rfl,-⟩:=hM.p.form;unfold ckZ;by_cases h:a2m s l.length=0
 ·obtain⟨hs,hl⟩:=a6g h
  rw[if_pos h];exact c1o s hs (e4d hs) ev fv wv _ dv kv lv l ws pl w hM.p hM.frm hl hM.ok hM.w hM.wl (λy hy=>(hM.wo y hy).2) hP (hw.sm oM) hw.dl
 ·rw[if_neg h]
  exact c8r s ev fv wv dv kv lv pa l.length pc _ rfl h w
end
section
open Go.RowKit Go.Shelf
section
variable {P:Program}{W:Wd}{r:Reach}{base:Nat}{t:Td}{v:Vu}
theorem a1e (ht:P.underlying t=some (.int .i64))(h:Cell.okWide P W r base t v):∃x,v= .int .i64 x/\fits x:=by
 exact yfl
theorem b8j (ht:P.underlying t=some (.int .u8))(h:Cell.okWide P W r base t v):∃x,v= .int .u8 x/\0<=x/\x<=255:=by
 exact yfl
theorem b4l (ae:(match P.underlying t with|some (.struct _)|some (.array _ _)=>true|_=>false)=true)(h:Value.okWide P W r base t v):∃cs,v= .agg cs/\cs.size=P.cellsOf t/\Row.okWide P W r base t cs:=by
 unfold Value.okWide at h;split at ae <;> simp_all
end
section
variable {H:Type}{enc:TypeId×Value->H}{P:Program}{W:Wd}{base:Nat}{sp:Nat->Bool}{hd:Bool}{t e:Td}{v:Vu}
theorem c1p {ts:List TypeId}{vs:List Value}{ds:List (DataW H)}{ps:List MemPlace}(h:DataW.TrodAll enc P W base sp hd (t::ts) (v::vs) ds ps):∃d p,DataW.Trod enc P W base sp hd t v d p:=by
 cases ds with
 |nil=>exact h.elim
 |cons d ds=>obtain⟨p,q,h1,-,-⟩:=h;exact⟨d,p,h1⟩
theorem d6z {t2:Td}{fuel:Nat}{x:DataW H×List MemPlace}(FQ:P.underlying t2=some (.slice t))(bK:P.cellsOf t=1)(ht:P.underlying t=some (.slice e))(he:P.underlying e=some (.int .i64))(hc:P.cellsOf e=1)
 (h:DataW.trod enc P W base sp hd fuel t2 [v]=some x):∃rows,Mat W.heap.size W v rows/\b6w rows.length:=by
 have hv:∀cs,v≠.agg cs:=by
  rcases Go.Deep.open_slice1 FQ bK h with⟨h1,-⟩|⟨a,len,cap,m,n,V,D,Pl,h1,-⟩
  ·obtain rfl:v= .slice none 0 0:=by simpa using h1
   intro cs dN
   cases dN
  ·obtain rfl:v= .slice (some a) len cap:=by simpa using h1
   intro cs dN
   cases dN
 have dN:v.cells.toList=[v]:=by cases v <;> first|rfl|exact absurd rfl (hv _)
 exact d8r FQ bK ht he hc hv ⟨x.1,x.2,fuel,by rw[dN];exact h⟩
end
theorem d7a {H:Type}{enc:TypeId×Value->H}{W:Wd}{r:Reach}{base EX:Nat}{sp:Nat->Bool}{hd:Bool}{v:Vu}(h:Value.okWide prog W r base 30 v)(ht:∃d p,DataW.Trod enc prog W EX sp hd 30 v d p) :
 ∃rv rows q0 q1 q2 b0 b1 b2 b3 raw,v= .agg (b0o rv q0 q1 q2 b0 b1 b2 b3 raw)/\Mat W.heap.size W rv rows/\(fits q0/\fits q1/\fits q2)/\((0<=b0/\b0<=255)/\(0<=b1/\b1<=255)/\(0<=b2/\b2<=255)/\(0<=b3/\b3<=255))/\fits raw.ax/\fits raw.ay:=by
 obtain⟨cs,rfl,hn,ts,vA,-,ao⟩:=b4l zM h;obtain rfl:ts=[22,3,3,3,5,5,5,5,3,3,3,3,3,3]:=Option.some.inj (vA.symm.trans zM);have wV:cs.size=14:=hn.trans zM;obtain⟨l⟩:=cs;match l,wV,ao,ht with
 |[c0,c1,c2,c3,c4,c5,c6,c7,c8,c9,yu,DK,D4,D5],_,ao,⟨d,p,fuel,ht⟩ =>
  have nE:prog.underlying 30=some (.struct (prog.fieldsOf 30)):=by kernel_rfl
  obtain⟨xs,n,-,-,hl,Jc,sF⟩:=DataW.trod_struct nE ht;have rX:(prog.fieldsOf 30)[0]?.map (λf=>(f.offset,f.type))=some (0,22):=by kernel_rfl
  obtain⟨f,NJ,uj⟩:=Option.map_eq_some_iff.1 rX;simp only[Prod.mk.injEq]at uj;have Gt:=sF 0 f NJ;rw[uj.1,uj.2,show prog.cellsOf 22=1 from by kernel_rfl]at Gt;have bu:(prog.fieldsOf 30).size=4:=by kernel_rfl
  rw[List.getElem?_eq_getElem (by rw[Jc,bu];decide)]at Gt;obtain⟨rows,hM,-⟩:=d6z (t2:=22) (t:=51) underlying22 zM underlying51 underlying3 zM (v:=c0) Gt;clear Gt sF Jc hl ht nE NJ rX uj bu h;obtain⟨u0,k0,g0⟩:=ao 0 c0 rfl;obtain⟨u1,k1,g1⟩:=ao 1 c1 rfl;obtain⟨u2,k2,g2⟩:=ao 2 c2 rfl;obtain⟨u3,k3,g3⟩:=ao 3 c3 rfl;obtain⟨u4,k4,g4⟩:=ao 4 c4 rfl;obtain⟨u5,k5,g5⟩:=ao 5 c5 rfl;obtain⟨u6,k6,g6⟩:=ao 6 c6 rfl;obtain⟨u7,k7,g7⟩:=ao 7 c7 rfl;obtain⟨u8,k8,g8⟩:=ao 8 c8 rfl;obtain⟨u9,k9,g9⟩:=ao 9 c9 rfl;obtain⟨u10,S7,g10⟩:=ao 10 yu rfl;obtain⟨u11,Ta,g11⟩:=ao 11 DK rfl;obtain⟨u12,Tb,g12⟩:=ao 12 D4 rfl;obtain⟨u13,Tc,g13⟩:=ao 13 D5 rfl
  cases k0;cases k1;cases k2;cases k3;cases k4;cases k5;cases k6;cases k7;cases k8;cases k9;cases S7;cases Ta;cases Tb;cases Tc;obtain⟨q0,rfl,f1⟩:=a1e underlying3 g1;obtain⟨q1,rfl,f2⟩:=a1e underlying3 g2;obtain⟨q2,rfl,f3⟩:=a1e underlying3 g3;obtain⟨b0,rfl,f4⟩:=b8j underlying5 g4;obtain⟨b1,rfl,f5⟩:=b8j underlying5 g5;obtain⟨b2,rfl,f6⟩:=b8j underlying5 g6;obtain⟨b3,rfl,f7⟩:=b8j underlying5 g7;obtain⟨r8,rfl,f8⟩:=a1e underlying3 g8;obtain⟨r9,rfl,f9⟩:=a1e underlying3 g9;obtain⟨Te,rfl,f10⟩:=a1e underlying3 g10;obtain⟨Tf,rfl,f11⟩:=a1e underlying3 g11;obtain⟨Tg,rfl,f12⟩:=a1e underlying3 g12;obtain⟨Th,rfl,f13⟩:=a1e underlying3 g13;exact⟨c0,rows,q0,q1,q2,b0,b1,b2,b3,⟨r8,r9,Te,Tf,Tg,Th⟩,rfl,hM,⟨f1,f2,f3⟩,⟨f4,f5,f6,f7⟩,f8,f9⟩
theorem laidMet.tl {P:Program}{W:Wd}{a:String×DataW Unit}{rest:List (String×DataW Unit)}(h:laidMet P (a::rest) W):laidMet P rest W:=by
 obtain⟨ps,hl,hn,hb⟩:=h;obtain⟨n,d⟩:=a;obtain⟨g,t,cs,fuel,p,q,-,-,-,-,hr,rfl⟩:=hl;exact⟨q,hr,(List.nodup_append.1 hn).2.1,λb off hm=>hb b off (List.mem_append_right _ hm)⟩
end
end Go.Proofs.YtfocdbjceedagaaGreatDoor
