/-
  Parts.
-/
import Derived.Test.YteijfnkidefekaaGreatEbl
set_option linter.unusedVariables false
set_option linter.unusedSimpArgs false
set_option linter.unusedSectionVars false
set_option maxHeartbeats 4000000
set_option maxRecDepth 100000
namespace Go.Proofs.YteijfnkidefekaaGreat
open Tryz
section
open Go Go.RowKit Go.Shelf Go.Lib Go.Maps
section
variable {n0 B:Nat}{W W':Wd}{a0 a1 a2 a3:Option Addr}{d0 d1 d2 d3:Nat}{E:List Eg}{F:List Fc}{Y:List Wq}{P:List Pc}
theorem Rw4.setF {g:Nat}(h:Rw4 n0 B W a0 (some ⟨g,0,none⟩) a2 a3 d0 d1 d2 d3 E F Y P){p i:Nat}(hp:p<F.length)(hi:i<5){y:Fc}{u:Vu}(he:fcE.enc y=(fcE.enc F[p]).set i u):Rw4 n0 B (W.setCell ⟨g,p*5+i,none⟩ u) a0 (some ⟨g,0,none⟩) a2 a3 d0 d1 d2 d3 E (F.set p y) Y P:=by
 obtain⟨cd,kd⟩:=a3g h.f rfl;have hg:=a0d W g (p*5+i) u;have:=El.setRow a9t h.f hp hi he;have hb:=a4l h.b hg kd jM;rw[show F.length=(F.set p y).length by simp]at hb;exact⟨a0i h.e hg kd jM,by rw[List.length_set]at this ⊢;exact this,a0i h.w hg kd jM,a0i h.p hg kd jM,hb,h.n,by simpa using h.z⟩
theorem Rw4.setP {g:Nat}(h:Rw4 n0 B W a0 a1 a2 (some ⟨g,0,none⟩) d0 d1 d2 d3 E F Y P){p i:Nat}(hp:p<P.length)(hi:i<7){y:Pc}{u:Vu}(he:plE.enc y=(plE.enc P[p]).set i u):Rw4 n0 B (W.setCell ⟨g,p*7+i,none⟩ u) a0 a1 a2 (some ⟨g,0,none⟩) d0 d1 d2 d3 E F Y (P.set p y):=by
 obtain⟨cd,kd⟩:=a3g h.p rfl;have hg:=a0d W g (p*7+i) u;have:=El.setRow a2n h.p hp hi he;have hb:=a4l h.b hg kd jM;rw[show P.length=(P.set p y).length by simp]at hb;exact⟨a0i h.e hg kd jM,a0i h.f hg kd jM,a0i h.w hg kd jM,by rw[List.length_set]at this ⊢;exact this,hb,h.n,by simpa using h.z⟩
theorem a3b {α:Type}{uE:El α}(hE:uE.Ok){a:Option Addr}{l:List α}{d:Nat}(h:W.ownsRow n0 uE.t uE.s (.slice a l.length d) l.length (l.flatMap uE.enc))(hl:l.length<=1000000){k:Nat}(hk:k<l.length) :
 ∃g,a=some ⟨g,0,none⟩/\n0<=g/\g<W.heap.size/\AtC uE W g (k*uE.s) l[k]/\∀i,W.frozen? ⟨g,i,none⟩=false:=by
 obtain⟨b,off,cap,e,-,ab,hc⟩:=(a0g hE h hl).some_ xM;rcases h.2 with⟨e2,h0⟩|⟨g,mN,cur,e2,h1,h3,-⟩
 ·omega
 ·simp only[Value.slice.injEq,true_and]at e e2
  obtain⟨rfl,rfl⟩:=e2;obtain⟨e3,-⟩:=e;simp only[Option.some.injEq,Addr.mk.injEq,and_true]at e3;obtain⟨rfl,rfl⟩:=e3;refine⟨g,rfl,h1,ab,λi hi=> ?_,λi=>(show Blk W g cur uE.t from h3).frozen i⟩;have:=hc k hk i hi;rw[Nat.zero_add]at this;exact this
end
def a2i (x:Fc)(k:Nat)(l:List Fc):List Fc:=(l.take k).map (λz=>if z.id=x.id then b0p z x else z)++l.drop k
theorem b0a (x:Fc)(k:Nat)(l:List Fc)(hk:k<=l.length):(a2i x k l).length=l.length:=by
 unfold a2i;rw[List.length_append,List.length_map,List.length_take,List.length_drop];omega
theorem c2c (x:Fc)(k:Nat)(l:List Fc)(hk:k<l.length):(a2i x k l)[k]? =some l[k]:=by
 unfold a2i;exact yfe
theorem b5w (x:Fc)(k:Nat)(l:List Fc)(hk:k<l.length):a2i x (k+1) l=(a2i x k l).set k (if l[k].id=x.id then b0p l[k] x else l[k]):=by
 unfold a2i;exact ydx
theorem b9a (x:Fc)(l:List Fc):a2i x l.length l=l.map λz=>if z.id=x.id then b0p z x else z:=by
 unfold a2i;rw[List.take_length,List.drop_length,List.append_nil]
theorem b9b (x0 x1 x2 x3:Option Addr)(c0 c1 c2 c3:Nat)(E:List Eg)(Fa:List Fc)(Y:List Wq)(P:List Pc)(x:Et)(hk:x.kind=1)(w:Wd)(hV:MapV w.heap.size w (.slice x0 E.length c0) (.slice x1 Fa.length c1) (.slice x2 Y.length c2) (.slice x3 P.length c3) E Fa Y P) :
 Calls prog 7 #[.agg #[.slice x0 E.length c0,.slice x1 Fa.length c1,.slice x2 Y.length c2,.slice x3 P.length c3],etV x] w (c6q E Fa Y P x w):=by
 have hP:=λX (hb:Below w.heap.size w X)=>a6b x0 x1 x2 x3 c0 c1 c2 c3 E Fa Y P X (hV.at_ hb)
 unfold a1s at hP;have k1:=(Blk.new (w.alloc (.cells #[.slice x0 E.length c0,.slice x1 Fa.length c1,.slice x2 Y.length c2,.slice x3 P.length c3] 32)) (etA x) 50).alloc (.cells #[.slice none 0 0,.slice none 0 0,.slice none 0 0,.slice none 0 0] 32);have k0:=((Blk.new w #[.slice x0 E.length c0,.slice x1 Fa.length c1,.slice x2 Y.length c2,.slice x3 P.length c3] 32).alloc (.cells (etA x) 50)).alloc (.cells #[.slice none 0 0,.slice none 0 0,.slice none 0 0,.slice none 0 0] 32);have k2:=Blk.new ((w.alloc (.cells #[.slice x0 E.length c0,.slice x1 Fa.length c1,.slice x2 Y.length c2,.slice x3 P.length c3] 32)).alloc (.cells (etA x) 50)) #[.slice none 0 0,.slice none 0 0,.slice none 0 0,.slice none 0 0] 32;simp only[World.size_alloc]at k1 k2;have ah:Below w.heap.size w (((w.alloc (.cells #[.slice x0 E.length c0,.slice x1 Fa.length c1,.slice x2 Y.length c2,.slice x3 P.length c3] 32)).alloc (.cells (etA x) 50)).alloc (.cells #[.slice none 0 0,.slice none 0 0,.slice none 0 0,.slice none 0 0] 32)):=by exact zC
 go_enter func7,ntmps7;go_upto_region 1 with fail;obtain⟨W1,ao⟩:=zE (((w.alloc (.cells #[.slice x0 E.length c0,.slice x1 Fa.length c1,.slice x2 Y.length c2,.slice x3 P.length c3] 32)).alloc (.cells (etA x) 50)).alloc (.cells #[.slice none 0 0,.slice none 0 0,.slice none 0 0,.slice none 0 0] 32));have aH:W1.heap.size=w.heap.size+1+1+1:=by rw[<-ao];simp
 rw[ao]at k0 k1 k2 ah ⊢;clear ao;obtain⟨BM,bu⟩:=zE w.heap.size;obtain⟨BX,oC⟩:=zE (BM+1);obtain⟨BO,dW⟩:=zE (BX+1);rw[bu]at aH k0 k1 k2 ⊢;rw[oC]at aH k1 k2 ⊢;rw[dW]at aH k2 ⊢;have eC:=hP W1 ah;obtain⟨xv,aO⟩:=zE (etV x);rw[aO];clear aO;obtain⟨m0,m1,m2,m3⟩:=zN4 k0;clear hP;go_upto_region 2 with(first
  |(go_at_call 20;(with_reducible refine eC.mono ?_);rintro e W2⟨a0,d0,a1,d1,a2,d2,a3,d3,rfl,r0,r1,r2,r3,aq⟩))
 have a8:=ah.trans (aq.mono ah.size);have bn:=aq.size;have bT:Below W2.heap.size W2 (W2.alloc (.cells #[.slice a0 E.length d0,.slice a1 Fa.length d1,.slice a2 Y.length d2,.slice a3 P.length d3] 32)):=(zR _ _).alloc (yR _) _;have kX:=(k1.below aq k1.lt).alloc (.cells #[.slice a0 E.length d0,.slice a1 Fa.length d1,.slice a2 Y.length d2,.slice a3 P.length d3] 32);have kO:=(k2.below aq k2.lt).alloc (.cells #[.slice a0 E.length d0,.slice a1 Fa.length d1,.slice a2 Y.length d2,.slice a3 P.length d3] 32);have kR:=Blk.new W2 #[.slice a0 E.length d0,.slice a1 Fa.length d1,.slice a2 Y.length d2,.slice a3 P.length d3] 32;have aX:Rw4 W1.heap.size W2.heap.size (W2.alloc (.cells #[.slice a0 E.length d0,.slice a1 Fa.length d1,.slice a2 Y.length d2,.slice a3 P.length d3] 32)) a0 a1 a2 a3 d0 d1 d2 d3 E Fa Y P:=⟨a0c r0 bT,a0c r1 bT,a0c r2 bT,a0c r3 bT,kR,bn,by rw[World.size_alloc];omega⟩;have aK:=a8.trans (bT.mono a8.size);obtain⟨W3,iq⟩:=zE (W2.alloc (.cells #[.slice a0 E.length d0,.slice a1 Fa.length d1,.slice a2 Y.length d2,.slice a3 P.length d3] 32));rw[iq]at kX kO aX aK ⊢;have gm:W3.heap.size=W2.heap.size+1:=by rw[<-iq];simp
 clear iq r0 r1 r2 r3 k0 k1 k2 ah eC m0 m1 m2 m3 bT kR;have e0:W3.cell? ⟨BX,0,none⟩=some (.int .i64 1):=by rw[<-hk];exact kX.cell 0
 obtain⟨BR,fC⟩:=zE W2.heap.size;rw[fC]at aX gm ⊢;obtain⟨n0,bX⟩:=zE W1.heap.size;rw[bX]at aX;have bZ:=hV.nf;go_wp2_with fail;go_loopw [6] (λkk wr=>∃k:Nat,k<=Fa.length/\kk= .int .i64 (k:Nat)/\Hid (Rw4 n0 BR wr a0 a1 a2 a3 d0 d1 d2 d3 E (a2i x.f k Fa) Y P/\Below n0 W3 wr)/\Blk wr BR #[.slice a0 E.length d0,.slice a1 Fa.length d1,.slice a2 Y.length d2,.slice a3 P.length d3] 32/\Blk wr BX (etA x) 50/\Blk wr BO #[.slice none 0 0,.slice none 0 0,.slice none 0 0,.slice none 0 0] 32) (λkk _=>Fa.length+1-(intOf kk).toNat)
 case atStart=>exact⟨0,Nat.zero_le _,rfl,Lib.hid ⟨by unfold a2i;simpa using aX,zR _ _⟩,aX.b,kX,kO⟩
 case round =>
  clear aX kX kO;obtain⟨k,eK,rfl,hR,kR,kX,kO⟩:=hrel;have n1:wr.cell? ⟨BR,1,none⟩=some (.slice a1 Fa.length d1):=kR.cell 1;by_cases ab:k<Fa.length
  ·have aj:(k:Int)<(Fa.length:Int):=xM
   have tf:=b0a x.f k Fa eK;have ag:=hR.out.1.f;obtain⟨g,rfl,wD,gO,cj,du⟩:=a3b a9t ag xM (show k<(a2i x.f k Fa).length by omega);have qv:(a2i x.f k Fa)[k]'(by omega)=Fa[k]:=Option.some.inj ((List.getElem?_eq_getElem xM).symm.trans (c2c x.f k Fa ab));rw[qv]at cj;have i0:wr.cell? ⟨g,k*5,none⟩=some (.int .i64 Fa[k].id):=cj 0 jM;have y0:wr.cell? ⟨BX,5,none⟩=some (.int .i64 x.f.id):=kX.cell 5;have ai:=b5w x.f k Fa ab;have pK:=a0y ag kR jM;have sn:BR≠g:=λe=>pK (by rw[e];rfl)
   have uF:g≠BR:=Ne.symm sn;have Gw:=kX.lt;have Ab:BX≠g:=xM;have uG:g≠BX:=xM;have uH:BO≠g:=xM;obtain⟨z,hz⟩:=zE (Fa[k]);rw[hz]at qv cj i0 ai;go_upto_region 9 with fail;refine zR0 λp=> ?_
   have aJ:Below wr.heap.size wr (wr.growBy p):=below_growBy wr p;obtain⟨W5,bL⟩:=zE (wr.growBy p);rw[bL]at aJ ⊢;clear bL;have cZ:=hR.out.1.up aJ;have aI:=hR.out.2.trans (aJ.mono xM);have jU:=kR.below aJ kR.lt;have dV:=kX.below aJ kX.lt;have lj:=kO.below aJ kO.lt;clear hR kR kX kO n1 i0 y0 cj;by_cases hid:z.id=x.f.id
   ·have Ac:(z.id==x.f.id)=true:=by simpa using hid
    rw[if_pos hid]at ai;have n1:W5.cell? ⟨BR,1,none⟩=some (.slice (some ⟨g,0,none⟩) Fa.length d1):=jU.cell 1;obtain⟨y6,y7,y8⟩:W5.cell? ⟨BX,6,none⟩=some (.string x.f.cls)/\W5.cell? ⟨BX,7,none⟩=some (.string x.f.nm)/\W5.cell? ⟨BX,8,none⟩=some (.int .i64 x.f.wt):=⟨dV.cell 6,dV.cell 7,dV.cell 8⟩;obtain⟨g',lP,-,-,cj,du⟩:=a3b a9t cZ.f xM (show k<(a2i x.f k Fa).length by omega);simp only[Option.some.injEq,Addr.mk.injEq,and_true]at lP;subst lP;rw[qv]at cj;obtain⟨v1,v2,v3⟩:W5.cell? ⟨g,k*5+1,none⟩=some (.string z.cls)/\W5.cell? ⟨g,k*5+2,none⟩=some (.string z.nm)/\W5.cell? ⟨g,k*5+3,none⟩=some (.int .i64 z.wt):=⟨cj 1 jM,cj 2 jM,cj 3 jM⟩;have z1:=du (k*5+1);have z2:=du (k*5+2);have z3:=du (k*5+3);go_wp2_with fail;have g1:=a0d W5 g (k*5+1) (.string x.f.cls);have g2:=a0d (W5.setCell ⟨g,k*5+1,none⟩ (.string x.f.cls)) g (k*5+2) (.string x.f.nm);have g3:=a0d ((W5.setCell ⟨g,k*5+1,none⟩ (.string x.f.cls)).setCell ⟨g,k*5+2,none⟩ (.string x.f.nm)) g (k*5+3) (.int .i64 x.f.wt);have gg:=(g1.trans g2).trans g3;have s1:=cZ.setF (p:=k) (i:=1) (show k<(a2i x.f k Fa).length by omega) jM (y:={ z with cls:=x.f.cls }) (u:= .string x.f.cls) (by rw[qv];rfl);have s2:=s1.setF (p:=k) (i:=2) (by rw[List.length_set];omega) jM (y:={ z with cls:=x.f.cls,nm:=x.f.nm }) (u:= .string x.f.nm) (by rw[List.getElem_set_self];rfl);have s3:=s2.setF (p:=k) (i:=3) (by rw[List.length_set,List.length_set];omega) jM (y:={ z with cls:=x.f.cls,nm:=x.f.nm,wt:=x.f.wt }) (u:= .int .i64 x.f.wt) (by rw[List.getElem_set_self];rfl);rw[List.set_set,List.set_set]at s3;have aP:a2i x.f (k+1) Fa=(a2i x.f k Fa).set k { z with cls:=x.f.cls,nm:=x.f.nm,wt:=x.f.wt }:=ai;refine⟨⟨k+1,xM,by go_num,Lib.hid ⟨by rw[aP];exact s3,aI.trans (a0f gg (Nat.le_trans (by have:=aI.size;omega) (yR _)) (λr e=>by cases e;omega))⟩,jU.kept gg (λe=>by cases e;exact sn rfl),dV.kept gg (λe=>by cases e;exact Ab rfl),lj.kept gg (λe=>by cases e;exact uH rfl)⟩,?_⟩;exact yae
   ·have Ac:(z.id==x.f.id)=false:=by simpa using hid
    rw[if_neg hid]at ai;have aP:a2i x.f (k+1) Fa=a2i x.f k Fa:=by
     rw[ai];have:(a2i x.f k Fa)[k]'(by omega)=z:=qv;rw[<-this,List.set_getElem_self]
    go_wp2_with fail;go_roundw
    case rel=>exact⟨k+1,xM,by go_num,Lib.hid ⟨by rw[aP];exact cZ,aI⟩,jU,dV,lj⟩
    case measure=>exact yae
  ·obtain rfl:k=Fa.length:=xM
   have aT:¬(Fa.length:Int)<(Fa.length:Int):=xM;have pA:=b9a x.f Fa;obtain⟨F2,Gx⟩:=zE (a2i x.f Fa.length Fa);have dC:F2.length=Fa.length:=by rw[<-Gx];exact b0a _ _ _ (yR _)
   rw[Gx]at hR pA;have aX:=hR.out.1;have oD:=hR.out.2;clear hR;obtain⟨OH,e1,e2,e3⟩:=zN4 kR;obtain⟨q0,q1,q2,q3⟩:=zN4 kO;have z0:=kO.frozen 0;have z1:=kO.frozen 1;have z2:=kO.frozen 2;have z3:=kO.frozen 3;obtain⟨kF,oF,gF,zF⟩:=a4b wr BO _ _ _ _ (.slice a0 E.length d0) (.slice a1 Fa.length d1) (.slice a2 Y.length d2) (.slice a3 P.length d3) kO;have al:Below w.heap.size w wr:=aK.trans (oD.mono xM);have er:MapV wr.heap.size wr (.slice a0 E.length d0) (.slice a1 F2.length d1) (.slice a2 Y.length d2) (.slice a3 P.length d3) E F2 Y P :=
    { hV with
      e:=a0g a9b aX.e (by have:=hV.ne;omega),ef:=a0o aX.e
      el:=λy hy=>((hV.el y hy).below al).mono al.size
      f:=a0g a9t aX.f xM,ff:=a0o aX.f,nf:=xM
      fi:=λy hy=>by
       rw[pA]at hy;obtain⟨z,hz,rfl⟩:=List.mem_map.1 hy;have:=hV.fi z hz;split
       ·exact this
       ·exact this
      w:=a0g a6d aX.w (by have:=hV.nw;omega),wf:=a0o aX.w
      wl:=λy hy=>((hV.wl y hy).below al).mono al.size
      p:=a0g a2n aX.p (by have:=hV.np;omega),pf:=a0o aX.p }
   have cD:=(er.off (Bs:=λk=>k=BO) (λB h=>h▸a1w kO) (λk hk=>oF k hk)).mono (Nat.le_of_eq zF.symm);have aV:a1d E F2 Y P=a2b (a1d E Fa Y P) x.key:=by
    unfold a2b a1d;rw[if_neg (by show ¬x.kind=4;rw[hk];decide),if_pos (show x.key.kind=1 from hk),pA];rfl
   have Ad:=al.size;have aF:=Lib.hid (And.intro cD (And.intro aV (al.trans (a0f gF xM (λr e=>by cases e;omega)))));replace dC:=Lib.hid dC;clear aX oD al er cD aV pA Gx gF oF hV;go_wp2_with fail;exact bodyPost_ret (results_cell_row qM _ _ _ 32 _ (0,0) _ qM kF underlying32 qM zM) rfl ⟨aF.out.2.2,a0,d0,a1,d1,a2,d2,a3,d3,E,F2,Y,P,by rw[dC.out],aF.out.1,aF.out.2.1⟩
end
end Go.Proofs.YteijfnkidefekaaGreat
