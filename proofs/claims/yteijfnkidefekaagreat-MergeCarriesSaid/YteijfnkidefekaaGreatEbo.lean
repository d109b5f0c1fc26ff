/-
  Parts.
-/
import Derived.Test.YteijfnkidefekaaGreatEbn
set_option linter.unusedVariables false
set_option linter.unusedSimpArgs false
set_option linter.unusedSectionVars false
set_option maxHeartbeats 4000000
set_option maxRecDepth 100000
namespace Go.Proofs.YteijfnkidefekaaGreat
open Tryz
section
open Go Go.RowKit Go.Shelf Go.Lib Go.Maps
section
variable {α:Type}(u:α->α)
def b1v (k:Nat)(l:List α):List α:=(l.take k).map u++l.drop k
theorem c4o (k:Nat)(l:List α)(hk:k<=l.length):(b1v u k l).length=l.length:=by
 unfold b1v;rw[List.length_append,List.length_map,List.length_take,List.length_drop];omega
theorem c6h (k:Nat)(l:List α)(hk:k<l.length):(b1v u k l)[k]? =some l[k]:=by
 unfold b1v;exact yfe
theorem b3y (k:Nat)(l:List α)(hk:k<l.length):b1v u (k+1) l=(b1v u k l).set k (u l[k]):=by
 unfold b1v;exact ydx
theorem c4p (l:List α):b1v u l.length l=l.map u:=by
 unfold b1v;rw[List.take_length,List.drop_length,List.append_nil]
end
def a2s (d:Ed)(x:Ek):Ek:=if x.id=d.id then a6l x d else x
theorem b3z (m:Mp)(d:Ed)(h:d.kind=5):a2b m d={ m with e:=m.e.map (a2s d) }:=by
 unfold a2b;rw[if_neg (by rw[h];decide),if_neg (by rw[h];decide),if_neg (by rw[h];decide),if_neg (by rw[h];decide),if_pos h];rfl
theorem b5z (d:Ed)(k:Nat)(E E0:List Eg)(hk:k<E0.length)(hl:E.length=E0.length)(he:E.map Eg.key=b1v (a2s d) k (E0.map Eg.key))(y:Eg)(hy:y.key=a2s d E0[k].key):(E.set k y).map Eg.key=b1v (a2s d) (k+1) (E0.map Eg.key):=by
 rw[b3y _ _ _ (by simpa using hk),List.map_set,he,hy];simp
theorem b6a (d:Ed)(k:Nat)(E E0:List Eg)(hk:k<E0.length)(he:E.map Eg.key=b1v (a2s d) k (E0.map Eg.key))(hy:a2s d E0[k].key=E0[k].key):E.map Eg.key=b1v (a2s d) (k+1) (E0.map Eg.key):=by
 have GI:k<(E0.map Eg.key).length:=by simpa using hk
 rw[b3y _ _ _ GI,he];have h1:=c6h (a2s d) k (E0.map Eg.key) GI;have h2:k<(b1v (a2s d) k (E0.map Eg.key)).length:=by rw[c4o _ _ _ xM];exact GI
 rw[List.getElem?_eq_getElem h2]at h1;have h3:(b1v (a2s d) k (E0.map Eg.key))[k]=(E0.map Eg.key)[k]:=Option.some.inj h1;have h4:a2s d (E0.map Eg.key)[k]=(b1v (a2s d) k (E0.map Eg.key))[k]:=by rw[h3];simpa using hy
 rw[h4,List.set_getElem_self]
def FPt (nz BR g go k ne dc:Nat)(la:Option Addr)(ln lc:Nat)(li:List a3v)(i:Nat)(v:Vu)(w:Wd):Prop :=
 match i with
 |0=>v= .pointer (some ⟨BR,0,none⟩)
 |1=>v= .slice (some ⟨g,go,none⟩) ne dc
 |2=>v= .int .i64 (k:Nat)
 |3=>∃Z,v= .slice (some ⟨Z,0,none⟩) 0 0/\nz<=Z/\Blk w Z #[] 41
 |4=>v= .pointer (some ⟨BR,0,none⟩)
 |5=>v= .slice (some ⟨g,go,none⟩) ne dc
 |6=>v= .int .i64 (k:Nat)
 |7=>v= .pointer (some ⟨g,go+k*4,none⟩)
 |8=>v= .pointer (some ⟨g,go+k*4+1,none⟩)
 |9=>v= .slice la ln lc
 |10=>w.ownsRow nz 41 2 v li.length (li.flatMap ptE.enc)/\∃gu cap,v= .slice (some ⟨gu,0,none⟩) li.length cap
 |_=>False
theorem FPt.kept {nz BR g go k ne dc:Nat}{la:Option Addr}{ln lc:Nat}{li:List a3v}{i:Nat}{v:Vu}{w w':Wd}(h:FPt nz BR g go k ne dc la ln lc li i v w)(hg:Below w.heap.size w w'):FPt nz BR g go k ne dc la ln lc li i v w':=by
 unfold FPt at *;exact yci
structure PtR (n0 BR g go k ne dc:Nat)(la:Option Addr)(ln lc:Nat)(li:List a3v)(W1 W:Wd):Prop where
 r:W.cell? ⟨BR,0,none⟩=some (.slice (some ⟨g,go,none⟩) ne dc)
 c:W.cell? ⟨g,go+k*4+1,none⟩=some (.slice la ln lc)
 l:Ln W.heap.size W (.slice la ln lc) li
 bel:Below W1.heap.size W1 W
 z:n0<=W.heap.size
theorem PtR.up {n0 BR g go k ne dc:Nat}{la:Option Addr}{ln lc:Nat}{li:List a3v}{W1 W W':Wd}(h:PtR n0 BR g go k ne dc la ln lc li W1 W)(hb:Below W.heap.size W W'):PtR n0 BR g go k ne dc la ln lc li W1 W' :=
 ⟨(hb.cell (World.block_lt_of_cell? _ _ h.r)).trans h.r,(hb.cell (World.block_lt_of_cell? _ _ h.c)).trans h.c,h.l.up hb,h.bel.trans (hb.mono h.bel.size),Nat.le_trans h.z hb.size⟩
def OwnPt (n0 m:Nat)(W:Wd)(y:Eg):Prop:=Ln n0 W y.sl y.line\/(W.ownsRow n0 41 2 y.sl y.line.length (y.line.flatMap ptE.enc)/\y.line.length<=1000/\∀b,y.sl.ownBlock=some b->b<m)
section
variable {n0 m m':Nat}{W W':Wd}{y:Eg}
theorem OwnPt.mono (h:OwnPt n0 m W y)(hm:m<=m'):OwnPt n0 m' W y:=h.imp id λh=>⟨h.1,h.2.1,λb hb=>Nat.lt_of_lt_of_le (h.2.2 b hb) hm⟩
theorem OwnPt.up (h:OwnPt n0 m W y)(hb:Below W.heap.size W W')(hn:n0<=W.heap.size):OwnPt n0 m W' y:=h.imp (λh=>h.below (hb.mono hn)) λh=>⟨a0c h.1 hb,h.2⟩
theorem OwnPt.ln (h:OwnPt n0 m W y)(hn:n0<=W.heap.size):Ln W.heap.size W y.sl y.line:=h.elim (λh=>h.mono hn) λh=>a8p h.1 h.2.1
theorem OwnPt.edge {b:Nat}{cur:Array Value}(h:OwnPt n0 m W y)(hg:W.grownBy W' (some b))(k:Blk W b cur 71)(hb:n0<=b)(hn:n0<=W.heap.size):OwnPt n0 m W' y:=h.imp (λh=>h.below (a0f hg hn λr e=>by cases e;exact hb)) λh=>⟨a0i h.1 hg k jM,h.2⟩
theorem OwnPt.past {b:Nat}(h:OwnPt n0 m W y)(hg:W.grownBy W' (some b))(hm:m<=b)(hb:n0<=b)(hn:n0<=W.heap.size):OwnPt n0 m W' y:=h.imp (λh=>h.below (a0f hg hn λr e=>by cases e;exact hb)) λh=>⟨h.1.kept hg (.inr λe=>by have:=h.2.2 b e;omega),h.2⟩
end
theorem b1s {W:Wd}{b b':Nat}{e:Td}{s:Nat}{v:Vu}{n:Nat}{xs:List Value}(h:W.ownsRow b e s v n xs)(hb:b'<=b):W.ownsRow b' e s v n xs :=
 ⟨h.1,h.2.imp id λ⟨g,cap,cur,h1,h2,h3⟩=>⟨g,cap,cur,h1,Nat.le_trans hb h2,h3⟩⟩
theorem b6b (x0 x1 x2 x3:Option Addr)(c0 c1 c2 c3:Nat)(E:List Eg)(Fa:List Fc)(Y:List Wq)(P:List Pc)(x:Et)(hk:x.kind=5)(FV:a0l x.n)(w:Wd)(hV:MapV w.heap.size w (.slice x0 E.length c0) (.slice x1 Fa.length c1) (.slice x2 Y.length c2) (.slice x3 P.length c3) E Fa Y P) :
 Calls prog 7 #[.agg #[.slice x0 E.length c0,.slice x1 Fa.length c1,.slice x2 Y.length c2,.slice x3 P.length c3],etV x] w (c6q E Fa Y P x w):=by
 have hP:=λX (hb:Below w.heap.size w X)=>a6b x0 x1 x2 x3 c0 c1 c2 c3 E Fa Y P X (hV.at_ hb)
 unfold a1s at hP;have k1:=(Blk.new (w.alloc (.cells #[.slice x0 E.length c0,.slice x1 Fa.length c1,.slice x2 Y.length c2,.slice x3 P.length c3] 32)) (etA x) 50).alloc (.cells #[.slice none 0 0,.slice none 0 0,.slice none 0 0,.slice none 0 0] 32);have k0:=((Blk.new w #[.slice x0 E.length c0,.slice x1 Fa.length c1,.slice x2 Y.length c2,.slice x3 P.length c3] 32).alloc (.cells (etA x) 50)).alloc (.cells #[.slice none 0 0,.slice none 0 0,.slice none 0 0,.slice none 0 0] 32);have k2:=Blk.new ((w.alloc (.cells #[.slice x0 E.length c0,.slice x1 Fa.length c1,.slice x2 Y.length c2,.slice x3 P.length c3] 32)).alloc (.cells (etA x) 50)) #[.slice none 0 0,.slice none 0 0,.slice none 0 0,.slice none 0 0] 32;simp only[World.size_alloc]at k1 k2;have ah:Below w.heap.size w (((w.alloc (.cells #[.slice x0 E.length c0,.slice x1 Fa.length c1,.slice x2 Y.length c2,.slice x3 P.length c3] 32)).alloc (.cells (etA x) 50)).alloc (.cells #[.slice none 0 0,.slice none 0 0,.slice none 0 0,.slice none 0 0] 32)):=by exact zC
 go_enter func7,ntmps7;go_upto_region 1 with fail;obtain⟨W1,ao⟩:=zE (((w.alloc (.cells #[.slice x0 E.length c0,.slice x1 Fa.length c1,.slice x2 Y.length c2,.slice x3 P.length c3] 32)).alloc (.cells (etA x) 50)).alloc (.cells #[.slice none 0 0,.slice none 0 0,.slice none 0 0,.slice none 0 0] 32));have aH:W1.heap.size=w.heap.size+1+1+1:=by rw[<-ao];simp
 rw[ao]at k0 k1 k2 ah ⊢;clear ao;obtain⟨BM,bu⟩:=zE w.heap.size;obtain⟨BX,oC⟩:=zE (BM+1);obtain⟨BO,dW⟩:=zE (BX+1);rw[bu]at aH k0 k1 k2 ⊢;rw[oC]at aH k1 k2 ⊢;rw[dW]at aH k2 ⊢;have eC:=hP W1 ah;obtain⟨xv,aO⟩:=zE (etV x);rw[aO];clear aO;obtain⟨m0,m1,m2,m3⟩:=zN4 k0;clear hP;go_upto_region 2 with(first
  |(go_at_call 20;(with_reducible refine eC.mono ?_);rintro e W2⟨a0,d0,a1,d1,a2,d2,a3,d3,rfl,r0,r1,r2,r3,aq⟩))
 have a8:=ah.trans (aq.mono ah.size);have bn:=aq.size;have bT:Below W2.heap.size W2 (W2.alloc (.cells #[.slice a0 E.length d0,.slice a1 Fa.length d1,.slice a2 Y.length d2,.slice a3 P.length d3] 32)):=(zR _ _).alloc (yR _) _;have kX:=(k1.below aq k1.lt).alloc (.cells #[.slice a0 E.length d0,.slice a1 Fa.length d1,.slice a2 Y.length d2,.slice a3 P.length d3] 32);have kO:=(k2.below aq k2.lt).alloc (.cells #[.slice a0 E.length d0,.slice a1 Fa.length d1,.slice a2 Y.length d2,.slice a3 P.length d3] 32);have kR:=Blk.new W2 #[.slice a0 E.length d0,.slice a1 Fa.length d1,.slice a2 Y.length d2,.slice a3 P.length d3] 32;have aX:Rw4 W1.heap.size W2.heap.size (W2.alloc (.cells #[.slice a0 E.length d0,.slice a1 Fa.length d1,.slice a2 Y.length d2,.slice a3 P.length d3] 32)) a0 a1 a2 a3 d0 d1 d2 d3 E Fa Y P:=⟨a0c r0 bT,a0c r1 bT,a0c r2 bT,a0c r3 bT,kR,bn,by rw[World.size_alloc];omega⟩;have aK:=a8.trans (bT.mono a8.size);obtain⟨W3,iq⟩:=zE (W2.alloc (.cells #[.slice a0 E.length d0,.slice a1 Fa.length d1,.slice a2 Y.length d2,.slice a3 P.length d3] 32));rw[iq]at kX kO aX aK ⊢;have gm:W3.heap.size=W2.heap.size+1:=by rw[<-iq];simp
 clear iq r0 r1 r2 r3 k0 k1 k2 ah eC m0 m1 m2 m3 bT kR;have e0:W3.cell? ⟨BX,0,none⟩=some (.int .i64 5):=by rw[<-hk];exact kX.cell 0
 obtain⟨BR,fC⟩:=zE W2.heap.size;rw[fC]at aX gm ⊢;obtain⟨n0,bX⟩:=zE W1.heap.size;rw[bX]at aX;have an:=hV.ne;go_wp2_with fail;go_loopw [9] (λkk wr=>∃(k:Nat) (EL:List Eg),k<=E.length/\kk= .int .i64 (k:Nat)/\EL.length=E.length/\Hid (Rw4 n0 BR wr a0 a1 a2 a3 d0 d1 d2 d3 EL Fa Y P/\Below n0 W3 wr/\EL.map Eg.key=b1v (a2s x.key) k (E.map Eg.key)/\(∀y∈EL,OwnPt n0 wr.heap.size wr y/\a0l y.id)/\∀i (h1:i<EL.length) (h2:i<E.length),k<=i->EL[i]=E[i])/\Blk wr BR #[.slice a0 E.length d0,.slice a1 Fa.length d1,.slice a2 Y.length d2,.slice a3 P.length d3] 32/\Blk wr BX (etA x) 50/\Blk wr BO #[.slice none 0 0,.slice none 0 0,.slice none 0 0,.slice none 0 0] 32) (λkk _=>E.length+1-(intOf kk).toNat)
 case atStart=>exact⟨0,E,Nat.zero_le _,rfl,rfl,Lib.hid ⟨aX,zR _ _,by unfold b1v;simp,λy hy=>⟨.inl (((hV.el y hy).below aK).mono xM),hV.ei y hy⟩,λi _ _ _=>rfl⟩,aX.b,kX,kO⟩
 case round =>
  clear aX kX kO;obtain⟨k,EL,eK,rfl,so,hR,kR,kX,kO⟩:=hrel;have n1:wr.cell? ⟨BR,0,none⟩=some (.slice a0 E.length d0):=kR.cell 0;by_cases ab:k<E.length
  ·have aj:(k:Int)<(E.length:Int):=xM
   have ag:=hR.out.1.e;obtain⟨g,rfl,wD,gO,cj,du⟩:=a3b a9b ag xM (show k<EL.length by omega);have Ae:EL[k]'(by omega)=E[k]:=hR.out.2.2.2.2 k xM ab (yR _);rw[Ae]at cj;obtain⟨z,hz⟩:=zE (E[k]);rw[hz]at cj Ae;have i0:wr.cell? ⟨g,k*4,none⟩=some (.int .i64 z.id):=cj 0 jM;have i1:wr.cell? ⟨g,k*4+1,none⟩=some (.slice z.la z.ln z.lc):=cj 1 jM;have GJ:=(hR.out.2.2.2.1 z (Ae▸List.getElem_mem _)).1.ln hR.out.1.z;obtain⟨QW,QX,aC,-⟩:=GJ.lst.form;simp only[Value.slice.injEq]at aC;have eZ:z.ln=z.line.length:=aC.2.1;rw[eZ]at i1;obtain⟨y1,y2⟩:wr.cell? ⟨BX,1,none⟩=some (.int .i64 x.id)/\wr.cell? ⟨BX,2,none⟩=some (.int .i64 x.n):=⟨kX.cell 1,kX.cell 2⟩;have pK:=a0y ag kR jM;have sn:BR≠g:=λe=>pK (by rw[e];rfl)
   have uF:g≠BR:=Ne.symm sn;have Gw:=kX.lt;have Ab:BX≠g:=xM;have uG:g≠BX:=xM;have uH:BO≠g:=xM;obtain⟨b1,jr⟩:=zE ((z.id==x.id));obtain⟨b2,Af⟩:=zE (decide (0<=x.n));obtain⟨b3,Ag⟩:=zE (decide (x.n<(z.line.length:Int)));go_upto_region 33 with fail;by_cases aa:b1=true/\b2=true/\b3=true
   ·obtain⟨rfl,rfl,rfl⟩:=aa
    refine zR0 λp=> ?_
    have aJ:Below wr.heap.size wr (wr.growBy p):=below_growBy wr p;obtain⟨W5,bL⟩:=zE (wr.growBy p);rw[bL]at aJ ⊢;clear bL;have cZ:=hR.out.1.up aJ;have aI:=hR.out.2.1.trans (aJ.mono hR.out.1.z);have GK:=hR.out.2.2.1;have sq:∀y∈EL,OwnPt n0 W5.heap.size W5 y/\a0l y.id:=λy hy=>⟨((hR.out.2.2.2.1 y hy).1.up aJ hR.out.1.z).mono aJ.size,(hR.out.2.2.2.1 y hy).2⟩
    have GL:=hR.out.2.2.2.2;have jU:=kR.below aJ kR.lt;have dV:=kX.below aJ kX.lt;have lj:=kO.below aJ kO.lt;have Ah:=cj.below aJ gO;have wF:=GJ.up aJ;have n5:W5.cell? ⟨BR,0,none⟩=some (.slice (some ⟨g,0,none⟩) E.length d0):=jU.cell 0;have j1:W5.cell? ⟨g,k*4+1,none⟩=some (.slice z.la z.ln z.lc):=Ah 1 jM;rw[eZ]at j1;rw[show z.sl= .slice z.la z.line.length z.lc by rw[<-eZ]]at wF;clear hR kR kX kO n1 i0 i1 y1 y2 cj GJ;go_upto_region 34 with fail;obtain⟨go,cG⟩:∃n,n=0:=⟨_,rfl⟩;obtain⟨nz,JH⟩:=zE W5.heap.size;have GM:PtR nz BR g go k E.length d0 z.la z.line.length z.lc z.line W5 W5:=⟨by rw[cG];exact n5,by rw[cG,Nat.zero_add];exact j1,wF,zR _ _,Nat.le_of_eq JH.symm⟩;refine Go.wp_region_rel 11 zM zM (λ_ W=>PtR nz BR g go k E.length d0 z.la z.line.length z.lc z.line W5 W) (λw w'=>Below w.heap.size w w') (FPt nz BR g go k E.length d0 z.la z.line.length z.lc z.line) (λ_ _ _ _ h g=>h.kept g) (GM.up (zR _ _).drew) ?step ?tail
    case step =>
     obtain⟨ne,Ai⟩:=zE E.length;obtain⟨dc,jH⟩:=zE d0;obtain⟨la,ig⟩:=zE z.la;obtain⟨lc,dZ⟩:=zE z.lc;obtain⟨li,gZ⟩:=zE z.line;obtain⟨ln,fg⟩:=zE li.length;rw[Ai]at aj ab ⊢;rw[jH,ig,dZ,gZ,fg];clear Ai jH ig dZ gZ JH cZ aI GK sq GL jU dV lj Ah wF n5 j1 GM cG;intro i o hi ho c bb W hc hM hA hD K hK;match i,hi,ho with
     |0,_,ho =>
      exact yfy
     |1,_,ho =>
      cases ho;have f165:=a0a (v:= .pointer (some ⟨BR,0,none⟩)) (a0b hD 0 165 zM rfl rfl);exact yix
     |2,_,ho =>
      exact yjf
     |3,_,ho =>
      cases ho;go_simp;have hb:Below W.heap.size W (W.alloc (.cells #[] 41)):=(zR _ _).alloc (yR _) _;exact ydb
     |4,_,ho =>
      exact yfy
     |5,_,ho =>
      cases ho;have f169:=a0a (v:= .pointer (some ⟨BR,0,none⟩)) (a0b hD 4 169 zM rfl rfl);exact yix
     |6,_,ho =>
      exact yjf
     |7,_,ho =>
      cases ho;have f170:=a0a (v:= .slice (some ⟨g,go,none⟩) ne dc) (a0b hD 5 170 zM rfl rfl);have f171:=a0a (v:= .int .i64 (k:Nat)) (a0b hD 6 171 zM rfl rfl);exact yke
     |8,_,ho =>
      cases ho;have f172:=a0a (v:= .pointer (some ⟨g,go+k*4,none⟩)) (a0b hD 7 172 zM rfl rfl);exact yka
     |9,_,ho =>
      cases ho;have f173:=a0a (v:= .pointer (some ⟨g,go+k*4+1,none⟩)) (a0b hD 8 173 zM rfl rfl);have z0:W.cell? ⟨g,go+k*4+1,none⟩=some (.slice la ln lc):=hM.c;exact yil
     |10,_,ho =>
      cases ho;have f168:=a0b hD 3 168 zM rfl rfl;have f174:=a0a (v:= .slice la ln lc) (a0b hD 9 174 zM rfl rfl);obtain⟨Z,h1,h2,h3⟩:=f168;refine El.step_freshO c3n c9z _ _ qM nz Z h1 (a3m h3 h2) (.slice la ln lc) li (a4a f174) hM.l.lst hM.l.frm (by have:=hM.l.len;omega) hM.z ?_;exact ydd
     |i+11,hi,_=>exact absurd hi xM
    case tail =>
     intro bb W' au hA aa;obtain⟨hr,gu,cap,h10⟩:=(show W'.ownsRow nz 41 2 (bb.eval (.tmp 175)) z.line.length (z.line.flatMap ptE.enc)/\∃gu cap,bb.eval (.tmp 175)= .slice (some ⟨gu,0,none⟩) z.line.length cap from aa 10 xM _ _ rfl rfl);rw[h10]at hr;have h1:=(show bb.eval (.tmp 166)= .slice (some ⟨g,go,none⟩) E.length d0 from aa 1 xM _ _ rfl rfl);have h2:=(show bb.eval (.tmp 167)= .int .i64 (k:Nat)from aa 2 xM _ _ rfl rfl);have az:=hA.frame (rT 165 (rF 11 (rT 14 ([])))) _ rfl zM;clear aa hA;obtain⟨f,hf⟩:=zDt bb;have g10:f 175= .slice (some ⟨gu,0,none⟩) z.line.length cap:=by rw[<-hf,<-h10];rfl
     have g1:f 166= .slice (some ⟨g,go,none⟩) E.length d0:=by rw[<-hf,<-h1];rfl
     have g2:f 167= .int .i64 (k:Nat):=by rw[<-hf,<-h2];rfl
     rw[hf]at az;clear hf h10 h1 h2;subst az;subst cG;simp only[rT,rF,a1j,g10,g1,g2,Nat.reduceAdd];clear g10 g1 g2;simp only[zU];have qI:=cZ.up au.bel;have QY:=jU.below au.bel jU.lt;have OJ:=dV.below au.bel dV.lt;have OK:=lj.below au.bel lj.lt;have c6:=au.c;rw[Nat.zero_add]at c6;obtain⟨g',lP,-,-,-,GN⟩:=a3b a9b qI.e xM (show k<EL.length by omega);simp only[Option.some.injEq,Addr.mk.injEq,and_true]at lP;subst lP;have zz:=GN (k*4+1);go_upto_region 35 with fail;obtain⟨cd,kd⟩:=a3g qI.e rfl;have aB:=a0d W' g (k*4+1) (.slice (some ⟨gu,0,none⟩) z.line.length cap);have x0:0<=x.n:=of_decide_eq_true Af;have x1:x.n<(z.line.length:Int):=of_decide_eq_true Ag;obtain⟨m,hm⟩:∃m:Nat,x.n=m:=⟨x.n.toNat,xM⟩;obtain⟨y,hy⟩:∃y:Eg,{ z with la:=some ⟨gu,0,none⟩,ln:=z.line.length,lc:=cap,line:=z.line.set m (x.px,x.py) }=y:=⟨_,rfl⟩;have s1:=qI.setE (p:=k) (i:=1) (show k<EL.length by omega) jM (y:=y) (u:= .slice (some ⟨gu,0,none⟩) z.line.length cap) (by rw[Ae,<-hy];rfl);have Cw:=a0i hr aB kd jM;obtain⟨W6,fU⟩:=zE (W'.setCell ⟨g,k*4+1,none⟩ (.slice (some ⟨gu,0,none⟩) z.line.length cap));rw[fU]at aB s1 Cw ⊢;have zo:m<z.line.length:=xM;have OL:(m:Int)<(z.line.length:Int):=xM;have JI:=s1.b;have Aj:=OJ.kept aB (λe=>by cases e;exact Ab rfl);have JJ:=OK.kept aB (λe=>by cases e;exact uH rfl);obtain⟨QZ,Ak,-,-,uK,-⟩:=a3b a9b s1.e (by rw[List.length_set];omega) (show k<(EL.set k y).length by rw[List.length_set];omega);simp only[Option.some.injEq,Addr.mk.injEq,and_true]at Ak;subst Ak;rw[List.getElem_set_self,<-hy]at uK;have c7:W6.cell? ⟨g,k*4+1,none⟩=some (.slice (some ⟨gu,0,none⟩) z.line.length cap):=uK 1 jM;have n7:W6.cell? ⟨BR,0,none⟩=some (.slice (some ⟨g,0,none⟩) EL.length d0):=by have:=JI.cell 0;rw[List.length_set]at this;exact this
     rw[so]at n7;obtain⟨y2,y3,y4⟩:W6.cell? ⟨BX,2,none⟩=some (.int .i64 (m:Nat))/\W6.cell? ⟨BX,3,none⟩=some (.int .i64 x.px)/\W6.cell? ⟨BX,4,none⟩=some (.int .i64 x.py):=⟨by rw[<-hm];exact Aj.cell 2,Aj.cell 3,Aj.cell 4⟩;obtain⟨Q0,Al,OM,ON,Am,An⟩:=a3b c3n Cw (by have:=wF.len;omega) zo;simp only[Option.some.injEq,Addr.mk.injEq,and_true]at Al;subst Al;obtain⟨l0,l1⟩:=c6r Am;have f0:=An (m*2);have f1:=An (m*2+1);refine c9p λp=> ?_
     go_upto_region 32 with fail;obtain⟨cu,ku⟩:=a3g Cw rfl;have uo:=a0d W6 gu (m*2) (.int .i64 x.px);have oI:=uo.trans (a0d (W6.setCell ⟨gu,m*2,none⟩ (.int .i64 x.px)) gu (m*2+1) (.int .i64 x.py));have q7:=El.setRow c3n Cw (p:=m) (i:=0) zo jM (y:=(x.px,z.line[m].2)) (u:= .int .i64 x.px) rfl;rw[show z.line.length=(z.line.set m (x.px,z.line[m].2)).length by simp]at q7;have q8:=El.setRow c3n q7 (p:=m) (i:=1) (by simpa using zo) jM (y:=(x.px,x.py)) (u:= .int .i64 x.py) (by rw[List.getElem_set_self];rfl);rw[List.set_set]at q8;simp only[List.length_set]at q8;have q9:((W6.setCell ⟨gu,m*2,none⟩ (.int .i64 x.px)).setCell ⟨gu,m*2+1,none⟩ (.int .i64 x.py)).ownsRow nz 41 2 (.slice (some ⟨gu,0,none⟩) z.line.length cap) z.line.length ((z.line.set m (x.px,x.py)).flatMap ptE.enc):=q8;clear q7 q8 uo;obtain⟨W7,lJ⟩:=zE ((W6.setCell ⟨gu,m*2,none⟩ (.int .i64 x.px)).setCell ⟨gu,m*2+1,none⟩ (.int .i64 x.py));rw[lJ]at q9 oI ⊢;have sr:Below W7.heap.size W7 (W7.growBy p):=below_growBy W7 p;obtain⟨W8,jN⟩:=zE (W7.growBy p);rw[jN]at sr ⊢;clear lJ jN fU;have z5:=cZ.z;have z6:=au.bel.size;have z7:=aB.size;have z8:=oI.size;have z9:=sr.size;have zX:=dV.lt;have zO:=lj.lt;have s7:Rw4 n0 BR W7 (some ⟨g,0,none⟩) a1 a2 a3 d0 d1 d2 d3 (EL.set k y) Fa Y P:=⟨a0i s1.e oI ku jM,a0i s1.f oI ku jM,a0i s1.w oI ku jM,a0i s1.p oI ku jM,a4l s1.b oI ku jM,s1.n,xM⟩;have s8:=s7.up sr;have JK:y.key=a2s x.key E[k].key:=by
      rw[hz,<-hy];unfold a2s a6l;rw[if_pos (show z.key.id=x.key.id from(by simpa using jr:z.id=x.id)),if_pos (show 0<=x.key.n/\x.key.n<z.key.line.length from⟨x0,x1⟩)];show Ek.mk _ _ _ _=Ek.mk _ _ _ _;have ht:x.key.n.toNat=m:=by show x.n.toNat=m;omega
      rw[ht];rfl
     have ai:=b5z x.key k EL E ab so GK y JK;have aW:Below n0 W3 W8:=(((aI.trans (au.bel.mono z5)).trans (a0f aB xM (λr e=>by cases e;exact wD))).trans (a0f oI xM (λr e=>by cases e;omega))).trans (sr.mono xM);have dT:∀y'∈EL.set k y,OwnPt n0 W8.heap.size W8 y'/\a0l y'.id:=λy' OQ=>by
      rcases List.mem_or_eq_of_mem_set OQ with h|rfl
      ·obtain⟨o1,o2⟩:=sq y' h
       exact⟨((((o1.up au.bel z5).edge aB kd wD xM).past oI xM xM xM).up sr xM).mono xM,o2⟩
      ·refine⟨.inr ⟨?_,?_,λb hb=> ?_⟩,?_⟩
       ·rw[<-hy]
        show W8.ownsRow n0 41 2 (.slice (some ⟨gu,0,none⟩) z.line.length cap) (z.line.set m (x.px,x.py)).length _;rw[List.length_set];exact b1s (a0c q9 sr) xM
       ·rw[<-hy]
        show(z.line.set m (x.px,x.py)).length<=1000;rw[List.length_set];exact wF.len
       ·rw[<-hy]at hb
        cases hb;show gu<_;omega
       ·rw[<-hy]
        exact(sq z (Ae▸List.getElem_mem _)).2
     have su:∀i (h1:i<(EL.set k y).length) (h2:i<E.length),k+1<=i->(EL.set k y)[i]=E[i]:=λi h1 h2 h3=>by
      rw[List.getElem_set_ne xM];exact GL i (by simpa using h1) h2 xM
     have OR:Blk W8 BR #[.slice (some ⟨g,0,none⟩) E.length d0,.slice a1 Fa.length d1,.slice a2 Y.length d2,.slice a3 P.length d3] 32:=by
      have:=s8.b;rw[List.length_set,so]at this;exact this
     have oZ:=(Aj.kept oI (λe=>by cases e;omega)).below sr xM;have OS:=(JJ.kept oI (λe=>by cases e;omega)).below sr xM;have aF:=Lib.hid (And.intro s8 (And.intro aW (And.intro ai (And.intro dT su))));clear s8 aW ai dT su JK s7 s1 q9 uK Am JI Aj JJ sq GL GK qI cZ GM au wF;go_wp2_with fail;go_roundw
     case rel=>exact⟨k+1,EL.set k y,xM,by go_num,by rw[List.length_set];exact so,aF,OR,oZ,OS⟩
     case measure=>exact yae
   ·have hid:a2s x.key z.key=z.key:=by
     unfold a2s a6l;by_cases h1:z.id=x.id
     ·rw[if_pos (show z.key.id=x.key.id from h1),if_neg (λh=>aa ⟨by rw[<-jr];simpa using h1,by rw[<-Af];exact decide_eq_true h.1,by rw[<-Ag];exact decide_eq_true h.2⟩)]
     ·rw[if_neg (show ¬z.key.id=x.key.id from h1)]
    have OT:=b6a x.key k EL E ab hR.out.2.2.1 (by rw[hz];exact hid)
    cases b1 <;> cases b2 <;> cases b3 <;> first|(exact absurd ⟨rfl,rfl,rfl⟩ aa)|skip
    all_goals clear aa hid
    all_goals
     refine zR0 λp=> ?_
     have aJ:Below wr.heap.size wr (wr.growBy p):=below_growBy wr p;go_wp2_with fail;go_roundw
     case rel=>exact⟨k+1,EL,xM,by go_num,so,Lib.hid ⟨hR.out.1.up aJ,hR.out.2.1.trans (aJ.mono hR.out.1.z),OT,λy hy=>⟨((hR.out.2.2.2.1 y hy).1.up aJ hR.out.1.z).mono aJ.size,(hR.out.2.2.2.1 y hy).2⟩,λi q1 q2 q3=>hR.out.2.2.2.2 i q1 q2 xM⟩,kR.below aJ kR.lt,kX.below aJ kX.lt,kO.below aJ kO.lt⟩
     case measure=>exact yae
  ·obtain rfl:k=E.length:=xM
   have aT:¬(E.length:Int)<(E.length:Int):=xM;have aX:=hR.out.1;have oD:=hR.out.2.1;have GO:=hR.out.2.2.1;have sq:=hR.out.2.2.2.1;clear hR;rw[show E.length=(E.map Eg.key).length by simp,c4p]at GO;obtain⟨OH,e1,e2,e3⟩:=zN4 kR;obtain⟨q0,q1,q2,q3⟩:=zN4 kO;have z0:=kO.frozen 0;have z1:=kO.frozen 1;have z2:=kO.frozen 2;have z3:=kO.frozen 3;obtain⟨kF,oF,gF,zF⟩:=a4b wr BO _ _ _ _ (.slice a0 E.length d0) (.slice a1 Fa.length d1) (.slice a2 Y.length d2) (.slice a3 P.length d3) kO;have al:Below w.heap.size w wr:=aK.trans (oD.mono xM);have er:MapV wr.heap.size wr (.slice a0 EL.length d0) (.slice a1 Fa.length d1) (.slice a2 Y.length d2) (.slice a3 P.length d3) EL Fa Y P :=
    { hV with
      e:=a0g a9b aX.e xM,ef:=a0o aX.e,ne:=xM
      el:=λy hy=>(sq y hy).1.ln aX.z
      ei:=λy hy=>(sq y hy).2
      f:=a0g a9t aX.f (by have:=hV.nf;omega),ff:=a0o aX.f
      w:=a0g a6d aX.w (by have:=hV.nw;omega),wf:=a0o aX.w
      wl:=λy hy=>((hV.wl y hy).below al).mono al.size
      p:=a0g a2n aX.p (by have:=hV.np;omega),pf:=a0o aX.p }
   have cD:=(er.off (Bs:=λk=>k=BO) (λB h=>h▸a1w kO) (λk hk=>oF k hk)).mono (Nat.le_of_eq zF.symm);have aV:a1d EL Fa Y P=a2b (a1d E Fa Y P) x.key:=by
    rw[b3z _ _ (show x.key.kind=5 from hk)];unfold a1d;rw[GO]
   have Ad:=al.size;have aF:=Lib.hid (And.intro cD (And.intro aV (al.trans (a0f gF xM (λr e=>by cases e;omega)))));replace so:=Lib.hid so;clear aX oD al er cD aV gF oF hV GO sq;go_wp2_with fail;exact bodyPost_ret (results_cell_row qM _ _ _ 32 _ (0,0) _ qM kF underlying32 qM zM) rfl ⟨aF.out.2.2,a0,d0,a1,d1,a2,d2,a3,d3,EL,Fa,Y,P,by rw[so.out],aF.out.1,aF.out.2.1⟩
end
end Go.Proofs.YteijfnkidefekaaGreat
