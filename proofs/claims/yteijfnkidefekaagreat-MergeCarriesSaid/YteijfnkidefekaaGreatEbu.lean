/-
  Parts.
-/
import Derived.Test.YteijfnkidefekaaGreatEbs
import Derived.Test.YteijfnkidefekaaGreatEbt
set_option linter.unusedVariables false
set_option linter.unusedSimpArgs false
set_option linter.unusedSectionVars false
set_option maxHeartbeats 8000000
set_option maxRecDepth 100000
namespace Go.Proofs.YteijfnkidefekaaGreat
open Tryz
section
open Go Go.RowKit Go.Shelf Go.Lib Go.Maps
theorem c9b (a1 b1 a2 b2:Int)(w:Wd):(binOp .neq 106 (.agg #[.int .i64 a1,.int .i64 b1]) (.agg #[.int .i64 a2,.int .i64 b2])).run prog w= .ok (.bool (!decide (a1=a2/\b1=b2))) w:=by
 have u3:=underlying3;have a3:=isAgg3;have z3:=sizeOf3;have hS:prog.underlying 106=some (.struct (prog.fieldsOf 106)):=by kernel_rfl
 have hp:prog.stoodInHeld 106=false:=by kernel_rfl
 rw[run_neq_struct,show(10000:Nat)=9999+1 from rfl,run_equalIn_agg w 9999 106 _ _ hS hp];simp only[Program.fieldsOf,underlying106];clear hS;go_simp;by_cases ha:a1=a2 <;> by_cases hb:b1=b2 <;> simp[ha,hb]
def c9c :ByteArray:=⟨#[116,114,101,101]⟩
def a1x (id wt at_:Int):Pc:=⟨id,at_,at_,c9c,⟨#[]⟩,wt,1⟩
abbrev a7p (id wt at_:Int):Array Value:= #[.int .i64 id,.int .i64 at_,.int .i64 at_,.string ⟨#[116,114,101,101]⟩,.string ⟨#[]⟩,.int .i64 wt,.int .i64 1]
theorem a3i (id wt at_:Int)(w:Wd):Zc prog 12 #[.int .i64 id,.int .i64 wt,.int .i64 at_] w (.agg (a7p id wt at_)):=by
 go_enter func12,ntmps12;go_wp2_with fail;have k2:=Blk.new w (a7p id wt at_) 48;exact bodyPost_ret (results_cell_row qM _ _ _ 48 _ (0,0) _ qM k2 underlying48 qM zM) rfl ⟨rfl,zC⟩
theorem a3j (a:Option Addr)(n c:Nat)(w:Wd):Zc prog 11 #[.slice a n c] w (.agg #[.slice none 0 0,.slice none 0 0,.slice none 0 0,.slice a n c]):=by
 go_enter func11,ntmps11;go_wp2_with fail;have k2:=Blk.new w #[.slice none 0 0,.slice none 0 0,.slice none 0 0,.slice a n c] 32;exact bodyPost_ret (results_cell_row qM _ _ _ 32 _ (0,0) _ qM k2 underlying32 qM zM) rfl ⟨rfl,zC⟩
def Mg (A L R want:List Pc)(cs:List Int):Prop :=
 ∀S:List Int,S.Nodup->S.Pairwise (·<=·)->(∀i,i∈S↔i∈A.map Pc.id\/i∈L.map Pc.id\/i∈R.map Pc.id)->b6i A L R S=want/\a7y A L R S=cs
def comL :List Pc:=[a1x 5 1 1,a1x 6 1 2]
theorem c6k (W:Wd)(x y:Pc)(n0:Nat)(b:Nat)(h:Blk W b #[.int .i64 x.id,.int .i64 x.x,.int .i64 x.y,.string x.cls,.string x.nm,.int .i64 x.wt,.int .i64 x.ds,.int .i64 y.id,.int .i64 y.x,.int .i64 y.y,.string y.cls,.string y.nm,.int .i64 y.wt,.int .i64 y.ds] 48)(hb:b<n0):Lst plE n0 W (.slice (some ⟨b,0,none⟩) 2 2) [x,y] :=
 ⟨_,2,rfl,by simp,by simp,λj hj=>⟨b,0,rfl,hb,λi hi=>by
  have gK:j<2:=by simpa using hj
  have jK:i<7:=hi;have hc:=λq=>h.cell q
  rw[Nat.zero_add];match j,gK with
  |0,_ =>
   match i,jK with
   |0,_=>exact hc 0
   |1,_=>exact hc 1
   |2,_=>exact hc 2
   |3,_=>exact hc 3
   |4,_=>exact hc 4
   |5,_=>exact hc 5
   |6,_=>exact hc 6
  |1,_ =>
   match i,jK with
   |0,_=>exact hc 7
   |1,_=>exact hc 8
   |2,_=>exact hc 9
   |3,_=>exact hc 10
   |4,_=>exact hc 11
   |5,_=>exact hc 12
   |6,_=>exact hc 13⟩⟩
theorem c5e {W:Wd}{n0:Nat}{a:Option Addr}{c:Nat}{l:List Pc}(h:Lst plE n0 W (.slice a l.length c) l)(hF:Frm (.slice a l.length c) l.length)(hl:l.length<=1000)(hf:∀p∈l,a0l p.id):MapV n0 W (.slice none 0 0) (.slice none 0 0) (.slice none 0 0) (.slice a l.length c) [] [] [] l :=
 { e:=Lst.nil _ _ _,ef:= .inl rfl,el:=λx hx=>by cases hx
   f:=Lst.nil _ _ _,ff:= .inl rfl
   w:=Lst.nil _ _ _,wf:= .inl rfl,wl:=λx hx=>by cases hx
   p:=h,pf:=hF
   ne:=Nat.zero_le _,nf:=Nat.zero_le _,nw:=Nat.zero_le _,np:=hl
   ei:=λx hx=>by cases hx
   fi:=λx hx=>by cases hx
   wi:=λx hx=>by cases hx
   pi:=hf }
theorem PMap.at_ {n0:Nat}{W X:Wd}{x:Option Addr}{c:Nat}{P:List Pc}(h:PMap n0 W x c P)(hb:Below n0 W X)(hn:n0<=X.heap.size):PMap X.heap.size X x c P:=⟨(h.m.below hb).mono hn,h.n,h.l⟩
theorem a3s (l r want:List Pc)(cs:List Int)(xl xr xw xc:Option Addr)(cl cr cw cc:Nat)(w:Wd)(hL:PMap w.heap.size w xl cl l)(hR:PMap w.heap.size w xr cr r)(hW:Lst plE w.heap.size w (.slice xw want.length cw) want)(tB:Inc Pc.id want)(Pn:(want.map Pc.id).Nodup)(Q9:want.length<=10)(hC:Lst nE w.heap.size w (.slice xc cs.length cc) cs)(bO:cs.length<=10)
 (h1:Mg comL l r want cs) (h2:Mg comL r l want cs) :
 Zc prog 13 #[.agg (b6h (.slice xl l.length cl)),.agg (b6h (.slice xr r.length cr)),.agg (b6h (.slice xw want.length cw)),.slice xc cs.length cc] w (.bool true):=by
 obtain⟨vL,wH⟩:∃v:Value,.slice xl l.length cl=v:=⟨_,rfl⟩;obtain⟨vR,wI⟩:∃v:Value,.slice xr r.length cr=v:=⟨_,rfl⟩;obtain⟨vW,Ki⟩:∃v:Value,.slice xw want.length cw=v:=⟨_,rfl⟩;unfold b6h;have kL:=((Blk.new w #[.slice none 0 0,.slice none 0 0,.slice none 0 0,vL] 32).alloc (.cells #[.slice none 0 0,.slice none 0 0,.slice none 0 0,vR] 32)).alloc (.cells #[.slice none 0 0,.slice none 0 0,.slice none 0 0,vW] 32);have kR:=(Blk.new (w.alloc (.cells #[.slice none 0 0,.slice none 0 0,.slice none 0 0,vL] 32)) #[.slice none 0 0,.slice none 0 0,.slice none 0 0,vR] 32).alloc (.cells #[.slice none 0 0,.slice none 0 0,.slice none 0 0,vW] 32);have kW:=Blk.new ((w.alloc (.cells #[.slice none 0 0,.slice none 0 0,.slice none 0 0,vL] 32)).alloc (.cells #[.slice none 0 0,.slice none 0 0,.slice none 0 0,vR] 32)) #[.slice none 0 0,.slice none 0 0,.slice none 0 0,vW] 32;have bE:Below w.heap.size w (((w.alloc (.cells #[.slice none 0 0,.slice none 0 0,.slice none 0 0,vL] 32)).alloc (.cells #[.slice none 0 0,.slice none 0 0,.slice none 0 0,vR] 32)).alloc (.cells #[.slice none 0 0,.slice none 0 0,.slice none 0 0,vW] 32)):=by exact zC
 have dm:(((w.alloc (.cells #[.slice none 0 0,.slice none 0 0,.slice none 0 0,vL] 32)).alloc (.cells #[.slice none 0 0,.slice none 0 0,.slice none 0 0,vR] 32)).alloc (.cells #[.slice none 0 0,.slice none 0 0,.slice none 0 0,vW] 32)).heap.size=w.heap.size+1+1+1:=by simp
 simp only[World.size_alloc]at kL kR kW;rw[wH,wI,Ki];go_enter func13,ntmps13;go_upto_region 1 with fail;obtain⟨W0,dH⟩:=zE (((w.alloc (.cells #[.slice none 0 0,.slice none 0 0,.slice none 0 0,vL] 32)).alloc (.cells #[.slice none 0 0,.slice none 0 0,.slice none 0 0,vR] 32)).alloc (.cells #[.slice none 0 0,.slice none 0 0,.slice none 0 0,vW] 32));rw[dH]at kL kR kW bE dm ⊢;clear dH;obtain⟨X0,rQ⟩:=zE w.heap.size;obtain⟨X1,mG⟩:=zE (X0+1);obtain⟨X2,Cx⟩:=zE (X1+1);rw[rQ]at kL kR kW dm ⊢;rw[mG]at kR kW dm ⊢;rw[Cx]at kW dm ⊢;go_upto_region 2 with(first
  |(go_at_call 12;(with_reducible refine(a3i 5 1 1 _).mono ?_);rintro e wa⟨rfl,uq⟩)
  |(go_at_call 12;(with_reducible refine(a3i 6 1 2 _).mono ?_);rintro e wb⟨rfl,tN⟩)
  |(go_at_call 11;(with_reducible refine(a3j _ _ _ _).mono ?_);rintro e wd⟨rfl,cJ⟩))
 have gQ:Below wb.heap.size wb (wb.alloc (.cells (a7p 5 1 1++a7p 6 1 2) 48)):=(zR _ _).alloc (yR _) _;have kT:=(Blk.new wb (a7p 5 1 1++a7p 6 1 2) 48).below cJ vM;obtain⟨BT,CD⟩:=zE wb.heap.size;rw[CD]at kT;have k9:=Blk.new wd #[.slice none 0 0,.slice none 0 0,.slice none 0 0,.slice (some ⟨BT,0,none⟩) 2 2] 32;have Hj:=kT.alloc (.cells #[.slice none 0 0,.slice none 0 0,.slice none 0 0,.slice (some ⟨BT,0,none⟩) 2 2] 32);have al:Below wd.heap.size wd (wd.alloc (.cells #[.slice none 0 0,.slice none 0 0,.slice none 0 0,.slice (some ⟨BT,0,none⟩) 2 2] 32)):=(zR _ _).alloc (yR _) _;have aH:(wd.alloc (.cells #[.slice none 0 0,.slice none 0 0,.slice none 0 0,.slice (some ⟨BT,0,none⟩) 2 2] 32)).heap.size=wd.heap.size+1:=by simp
 rw[CD];obtain⟨W1,ao⟩:=zE (wd.alloc (.cells #[.slice none 0 0,.slice none 0 0,.slice none 0 0,.slice (some ⟨BT,0,none⟩) 2 2] 32));rw[ao]at k9 Hj al aH ⊢;clear ao;obtain⟨B9,oU⟩:=zE wd.heap.size;rw[oU]at k9 aH ⊢;have sa:=uq.size;have sb:=tN.size;have sd:BT+1<=B9:=by have:=cJ.size;simp at this;omega
 have iy:Below W0.heap.size W0 W1:=(((uq.trans (tN.mono sa)).trans (gQ.mono xM)).trans (cJ.mono uM)).trans (al.mono xM);have et:Below w.heap.size w W1:=bE.trans (iy.mono bE.size);replace kL:=kL.below iy kL.lt;replace kR:=kR.below iy kR.lt;replace kW:=kW.below iy kW.lt;have pH:PMap W1.heap.size W1 (some ⟨BT,0,none⟩) 2 comL:=⟨c5e (c6k W1 (a1x 5 1 1) (a1x 6 1 2) _ BT Hj xM) (.inr ⟨BT,0,2,rfl⟩) jM (by intro p hp;simp[comL]at hp;rcases hp with rfl|rfl <;> exact⟨jM,jM⟩),jM,jM⟩;have Bg:=hL.below et;have Po:=hR.below et;obtain⟨⟨p0,p1,p2,p3⟩,r0,r1,r2,r3⟩:(W1.cell? ⟨X0,0,none⟩=some (.slice none 0 0)/\W1.cell? ⟨X0,1,none⟩=some (.slice none 0 0)/\W1.cell? ⟨X0,2,none⟩=some (.slice none 0 0)/\W1.cell? ⟨X0,3,none⟩=some vL)/\W1.cell? ⟨X1,0,none⟩=some (.slice none 0 0)/\W1.cell? ⟨X1,1,none⟩=some (.slice none 0 0)/\W1.cell? ⟨X1,2,none⟩=some (.slice none 0 0)/\W1.cell? ⟨X1,3,none⟩=some vR:=⟨⟨kL.cell 0,kL.cell 1,kL.cell 2,kL.cell 3⟩,kR.cell 0,kR.cell 1,kR.cell 2,kR.cell 3⟩;have kX:=Blk.new W1 #[.slice none 0 0,.slice none 0 0,.slice none 0 0,vL,.slice none 0 0,.slice none 0 0,.slice none 0 0,vR,.slice none 0 0,.slice none 0 0,.slice none 0 0,vR,.slice none 0 0,.slice none 0 0,.slice none 0 0,vL] 35;have mf:Below W1.heap.size W1 (W1.alloc (.cells #[.slice none 0 0,.slice none 0 0,.slice none 0 0,vL,.slice none 0 0,.slice none 0 0,.slice none 0 0,vR,.slice none 0 0,.slice none 0 0,.slice none 0 0,vR,.slice none 0 0,.slice none 0 0,.slice none 0 0,vL] 35)):=(zR _ _).alloc (yR _) _;have CH:(W1.alloc (.cells #[.slice none 0 0,.slice none 0 0,.slice none 0 0,vL,.slice none 0 0,.slice none 0 0,.slice none 0 0,vR,.slice none 0 0,.slice none 0 0,.slice none 0 0,vR,.slice none 0 0,.slice none 0 0,.slice none 0 0,vL] 35)).heap.size=W1.heap.size+1:=by simp
 clear kT Hj gQ cJ tN uq kL kR bE iy al;go_wp2_with fail;obtain⟨W2,bQ⟩:=zE (W1.alloc (.cells #[.slice none 0 0,.slice none 0 0,.slice none 0 0,vL,.slice none 0 0,.slice none 0 0,.slice none 0 0,vR,.slice none 0 0,.slice none 0 0,.slice none 0 0,vR,.slice none 0 0,.slice none 0 0,.slice none 0 0,vL] 35));rw[bQ]at kX mf CH ⊢;clear bQ p0 p1 p2 p3 r0 r1 r2 r3;rw[aH]at kX mf CH;obtain⟨BX,oC⟩:=zE (B9+1);rw[oC]at kX mf CH aH ⊢;have Pp:PMap BX W2 (some ⟨BT,0,none⟩) 2 comL:=(aH▸pH).below mf;have a8:Below w.heap.size w W2:=et.trans (mf.mono (by have:=et.size;omega));have Hk:∀k,k<2->∃(la ra:List Pc) (xa ya:Option Addr) (ca da:Nat),((∀X,Blk X BX #[.slice none 0 0,.slice none 0 0,.slice none 0 0,vL,.slice none 0 0,.slice none 0 0,.slice none 0 0,vR,.slice none 0 0,.slice none 0 0,.slice none 0 0,vR,.slice none 0 0,.slice none 0 0,.slice none 0 0,vL] 35->X.cell? ⟨BX,k*8,none⟩=some (.slice none 0 0)/\X.cell? ⟨BX,k*8+1,none⟩=some (.slice none 0 0)/\X.cell? ⟨BX,k*8+2,none⟩=some (.slice none 0 0)/\X.cell? ⟨BX,k*8+3,none⟩=some (.slice xa la.length ca)/\X.cell? ⟨BX,k*8+4,none⟩=some (.slice none 0 0)/\X.cell? ⟨BX,k*8+5,none⟩=some (.slice none 0 0)/\X.cell? ⟨BX,k*8+6,none⟩=some (.slice none 0 0)/\X.cell? ⟨BX,k*8+7,none⟩=some (.slice ya ra.length da))/\PMap w.heap.size w xa ca la/\PMap w.heap.size w ya da ra/\Mg comL la ra want cs):=λk hk=>by
  match k,hk with
  |0,_=>exact⟨l,r,xl,xr,cl,cr,λX h=>(by rw[wH,wI];exact⟨h.cell 0,h.cell 1,h.cell 2,h.cell 3,h.cell 4,h.cell 5,h.cell 6,h.cell 7⟩),hL,hR,h1⟩
  |1,_=>exact⟨r,l,xr,xl,cr,cl,λX h=>(by rw[wH,wI];exact⟨h.cell 8,h.cell 9,h.cell 10,h.cell 11,h.cell 12,h.cell 13,h.cell 14,h.cell 15⟩),hR,hL,h2⟩
 have Kj:=k9.below (aH▸mf) xM;have Kk:=kW.below (aH▸mf) xM;have Ra:w.heap.size<=X0:=Nat.le_of_eq rQ;clear k9 kW mf Bg Po pH et;go_loopw [28] (λkk wr=>∃k:Nat,k<=2/\kk= .int .i64 (k:Nat)/\Hid (Below W2.heap.size W2 wr)) (λkk wr=>2-(intOf kk).toNat)
 case atStart=>exact⟨0,xM,rfl,Lib.hid (zR _ _)⟩
 case round =>
  obtain⟨k,hk,rfl,bW⟩:=hrel;by_cases ab:k<2
  ·have aj:(k:Int)<2:=xM
   obtain⟨la,ra,xa,ya,ca,da,AA,Kl,wK,Km⟩:=Hk k ab;have dX:=bW.out.size;have lB:=kX.below bW.out kX.lt;obtain⟨q0,q1,q2,q3,q4,q5,q6,q7⟩:=AA wr lB;have cQ:Below w.heap.size w wr:=a8.trans (bW.out.mono a8.size);have Hl:=Kj.below bW.out Kj.lt;have Hm:=Kk.below bW.out Kk.lt;obtain⟨na,lN⟩:=zE la.length;obtain⟨nb,Kn⟩:=zE ra.length;rw[lN]at q3;rw[Kn]at q7;have kD:=Blk.new wr #[.slice none 0 0,.slice none 0 0,.slice none 0 0,.slice xa na ca,.slice none 0 0,.slice none 0 0,.slice none 0 0,.slice ya nb da] 35;have A2:Below wr.heap.size wr (wr.alloc (.cells #[.slice none 0 0,.slice none 0 0,.slice none 0 0,.slice xa na ca,.slice none 0 0,.slice none 0 0,.slice none 0 0,.slice ya nb da] 35)):=(zR _ _).alloc (yR _) _;have Ko:(wr.alloc (.cells #[.slice none 0 0,.slice none 0 0,.slice none 0 0,.slice xa na ca,.slice none 0 0,.slice none 0 0,.slice none 0 0,.slice ya nb da] 35)).heap.size=wr.heap.size+1:=by simp
   go_upto_region 5 with fail;obtain⟨W3,eP⟩:=zE (wr.alloc (.cells #[.slice none 0 0,.slice none 0 0,.slice none 0 0,.slice xa na ca,.slice none 0 0,.slice none 0 0,.slice none 0 0,.slice ya nb da] 35));rw[eP]at kD A2 Ko ⊢;clear eP q0 q1 q2 q3 q4 q5 q6 q7;obtain⟨BD,Pq⟩:=zE wr.heap.size;have mg:Below wr.heap.size wr W3:=A2;rw[Pq]at kD Ko ⊢;have Kp:=Hl.below mg Hl.lt;have Hn:=Hm.below mg Hm.lt;have aK:Below w.heap.size w W3:=cQ.trans (mg.mono cQ.size);have Kq:PMap W3.heap.size W3 (some ⟨BT,0,none⟩) 2 comL:=Pp.at_ ((bW.out.mono xM).trans (mg.mono xM)) xM;have hA3:=Kl.at_ aK aK.size;have dF:=wK.at_ aK aK.size;have mQ:=c8a comL la ra _ _ _ _ _ _ W3 Kq hA3 dF;unfold b6h at mQ;rw[lN,Kn]at mQ;rw[show comL.length=2 from rfl]at mQ;obtain⟨p0,p1,p2,p3⟩:=zN4 Kp;obtain⟨q0,q1,q2,q3,q4,q5,q6,q7⟩:=zN8 kD;go_upto_region 6 with(first
    |(go_at_call 39;(with_reducible refine mQ.mono ?_);rintro e W4⟨bh,S,a0,d0,a1,d1,a2,d2,a3,d3,P',ba,bc,rfl,uA,mr,eB,qN,nX,jR,qL⟩))
   obtain⟨Kr,Ks⟩:=Km S nX jR qL;rw[Kr]at mr;obtain rfl:want=P':=a1q Pc.id tB eB mr Pn;rw[Ks]at qN ⊢;have kN:=Blk.new W4 #[.slice a0 0 d0,.slice a1 0 d1,.slice a2 0 d2,.slice a3 want.length d3] 32;have aI:Below W4.heap.size W4 (W4.alloc (.cells #[.slice a0 0 d0,.slice a1 0 d1,.slice a2 0 d2,.slice a3 want.length d3] 32)):=(zR _ _).alloc (yR _) _;have ou:(W4.alloc (.cells #[.slice a0 0 d0,.slice a1 0 d1,.slice a2 0 d2,.slice a3 want.length d3] 32)).heap.size=W4.heap.size+1:=by simp
   obtain⟨W5,bL⟩:=zE (W4.alloc (.cells #[.slice a0 0 d0,.slice a1 0 d1,.slice a2 0 d2,.slice a3 want.length d3] 32));rw[bL]at kN aI ou ⊢;clear bL p0 p1 p2 p3 q0 q1 q2 q3 q4 q5 q6 q7;obtain⟨BN,Pr⟩:=zE W4.heap.size;have qO:Below W4.heap.size W4 W5:=aI;rw[Pr]at kN ou ⊢;have oy:=bh.size;have oP:Below W3.heap.size W3 W5:=bh.trans (qO.mono oy);have mh:Below w.heap.size w W5:=aK.trans (oP.mono aK.size);have Kt:=Hn.below oP Hn.lt;have Ho:=uA.up qO;have qP:=a8x [] [] want (λy hy=>by cases hy) (λy hy=>by cases hy) rfl a0 a1 a2 a3 none none none xw d0 d1 d2 d3 0 0 0 cw W5 Ho.w Ho.p (Lst.nil _ _ _) ((hW.below mh).mono mh.size) vM xM;simp only[List.length_nil]at qP;rw[Ki]at qP;have oQ:=qN.up qO;have Hp:=(hC.below mh).mono mh.size;have an:((cs.length:Int) != (cs.length:Int))=false:=by simp
   obtain⟨p0,p1,p2,p3⟩:=zN4 kN;obtain⟨q0,q1,q2,q3⟩:=zN4 Kt;obtain⟨cn,Ps⟩:=zE cs.length;rw[Ps]at oQ Hp an ⊢;go_wp2_with (first
    |(go_at_call 40;(with_reducible refine qP.mono ?_);rintro e W6⟨rfl,bC⟩))
   have Pt:Below w.heap.size w W6:=mh.trans (bC.mono mh.size);have AB:Below W2.heap.size W2 W6:=bW.out.trans (((mg.trans (oP.mono xM)).trans (bC.mono (by have:=oP.size;omega))).mono xM);have AD:=oQ.up bC;have Pu:=Hp.up bC;clear p0 p1 p2 p3 q0 q1 q2 q3 qP qN oQ Hp kN Kt Kp kD mQ uA Ho qO aI oP mg A2 bh bC Hl lB Hm Hn Kl wK AA mr Km nX jR qL Kr Ks eB Kq hA3 dF;obtain⟨Rb,hq⟩:∃W,W=wr:=⟨_,rfl⟩;subst hq;go_loopw [54] (λv wq=>∃q:Nat,q<=cn/\v= .int .i64 (q:Nat)/\Hid (Below W6.heap.size W6 wq)) (λv wq=>cn-(intOf v).toNat)
   case atStart=>exact⟨0,Nat.zero_le _,rfl,Lib.hid (zR _ _)⟩
   case round =>
    obtain⟨q,hq,rfl,AE⟩:=hrel;have cJ:=AD.up AE.out;have Pv:=Pu.up AE.out;by_cases eL:q<cn
    ·have Ds:(q:Int)<(cn:Int):=xM
     obtain⟨b,off,cp,hv,-,bS,hc⟩:=cJ.some_ xM;obtain⟨b',dK,Hi,jO,-,ik,cB⟩:=Pv.some_ xM;simp only[Value.slice.injEq]at hv jO;obtain⟨rfl,-,rfl⟩:=hv;obtain⟨rfl,-,rfl⟩:=jO;obtain⟨i,hi⟩:=zE (cs[q]'(by omega));have g1:=hc q xM;have g2:=cB q xM;rw[hi]at g1 g2;obtain⟨p0,p1⟩:=c6r g1;have r0:wr.cell? ⟨b',dK+q,none⟩=some (.int .i64 i):=by have:=g2 0 jM;simpa using this
     clear g1 g2 hc cB hi;have kC:=Blk.new wr #[.int .i64 3,.int .i64 i] 106;have jC:Below wr.heap.size wr (wr.alloc (.cells #[.int .i64 3,.int .i64 i] 106)):=(zR _ _).alloc (yR _) _;have Az:=c9b 3 i 3 i;rw[show(!decide ((3:Int)=3/\i=i))=false by simp]at Az;have bP:=run_eqGuard_agg (P:=prog);go_upto_region 11 with fail;obtain⟨W7,lJ⟩:=zE (wr.alloc (.cells #[.int .i64 3,.int .i64 i] 106));rw[lJ]at kC jC ⊢;clear lJ;have s0:=jC.cell (p:=⟨b',dK+q,none⟩) ik;rw[r0]at s0;obtain⟨BC,Ax⟩:=zE wr.heap.size;have AF:Below wr.heap.size wr W7:=jC;rw[Ax]at kC ⊢;obtain⟨c0,c1⟩:=zN2 kC;clear p0 p1 r0;refine zR0 λp=> ?_
     have aJ:Below W7.heap.size W7 (W7.growBy p):=below_growBy W7 p;have bz:=Lib.hid (AE.out.trans ((AF.trans (aJ.mono AF.size)).mono AE.out.size));go_wp2_with fail;go_roundw
     case rel=>exact⟨q+1,xM,by go_num,bz⟩
     case measure=>simp[intOf];omega
    ·obtain rfl:q=cn:=xM
     have tZ:¬(q:Int)<(q:Int):=xM;have bz:=Lib.hid (AB.trans (AE.out.mono AB.size));go_wp2_with fail;go_roundw
     case rel=>exact⟨_,_,_,_,_,_,_,⟨k+1,xM,by go_num,by rw[<-CH];exact bz⟩,rfl,rfl,rfl,rfl,rfl,rfl,rfl⟩
     case measure=>simp[intOf];omega
  ·obtain rfl:k=2:=xM
   have aT:¬(2:Int)<2:=xM;have cQ:Below w.heap.size w wr:=a8.trans (bW.out.mono a8.size);go_wp2_with fail;go_ret;exact⟨rfl,rQ▸cQ⟩
theorem c4v (x:Et)(W:Wd)(B O:Nat)(h:AtC etE W B O x):(Instr.loadAt 50 (.pointer (some ⟨B,O,none⟩))).run prog W= .ok (etV x) W:=by
 have hc:W.rangeAt B O (etA x).toList:=λj v hv=>by
  have hj:j<25:=(List.getElem?_eq_some_iff.1 hv).1;rw[h j hj];exact hv
 have:=run_loadAt_mid W B O 50 (etA x).toList _ hc underlying50 rfl zM;simpa using this
section
variable {ops:Array Oper}{rest:List Oper}{o:Oper}{a:Act}{w:Wd}{Q:Exit->Act->World->Prop}
theorem a7z (bP:o.guard=none)(p:Operand)(ho:o.op= .load 50 p)(B O:Nat)(hp:a.eval p= .pointer (some ⟨B,O,none⟩))(x:Et)(hB:AtC etE w B O x)(xv:Vu)(aO:etV x=xv)
 (h:wpList prog ops Q rest (a.put o.dst xv) w):wpList prog ops Q (o::rest) a w:=by
 refine wpList_plain bP λK hK=> ?_
 unfold Oper.wp execOp;simp only[ho,hp,Sem.run_bind,Sem.run_pure,Result.andThen_ok,c4v x w B O hB,aO];exact hK _ _ h
theorem a8y (bP:o.guard=none)(p v:Operand)(ho:o.op= .store 50 p v)(B:Nat)(hB:w.heap.size=B)(hp:a.eval p= .pointer (some ⟨B,0,none⟩))(x:Et)(hv:a.eval v=etV x)
 (h:wpList prog ops Q rest (a.put o.dst undef) (w.alloc (.cells (etA x) 50))):wpList prog ops Q (o::rest) a (w.alloc (.cells (etA default) 50)):=by
 subst hB;refine wpList_plain bP λK hK=> ?_
 unfold Oper.wp execOp;simp only[ho,hp,hv,Sem.run_bind,Sem.run_pure,Result.andThen_ok,b7l x w];exact hK _ _ h
end
theorem a8z {α:Type}{E:El α}{W:Wd}{Z n0:Nat}{x:α}(h:Blk W Z (E.enc x).toArray E.t)(hz:Z<n0):Lst E n0 W (.slice (some ⟨Z,0,none⟩) 1 1) [x] :=
 ⟨_,1,rfl,by simp,by simp,λj hj=>⟨Z,0,rfl,hz,λi hi=>by
  have gK:j=0:=by simpa using hj
  subst gK;rw[Nat.zero_mul,Nat.zero_add,h.cell i];simp⟩⟩
theorem c8b {x:Et}{W:Wd}{B:Nat}(h:Blk W B (etA x) 50):AtC etE W B 0 x:=λi hi=>by
 rw[Nat.zero_add,h.cell i];simp
theorem b1t (es fs:List Et)(mU:es.map Et.key=fs.map Et.key)(hz:∀x∈es,∃a c,x.w=zw a c)(bn:∀x∈fs,∃a c,x.w=zw a c)(xa ya:Option Addr)(ca da:Nat)(w:Wd)(h1:Lst etE w.heap.size w (.slice xa es.length ca) es)(h2:Lst etE w.heap.size w (.slice ya es.length da) fs)(hl:es.length<=1000) :
 Zc prog 14 #[.slice xa es.length ca,.slice ya es.length da] w (.bool true):=by
 have hlen:es.length=fs.length:=by simpa using congrArg List.length mU
 obtain⟨n,hn⟩:=zE es.length;rw[hn]at h1 h2 ⊢;have an:((n:Int) != (n:Int))=false:=by simp
 go_enter func14,ntmps14;go_wp2_with fail;go_loopw [5] (λv wq=>∃k:Nat,k<=n/\v= .int .i64 (k:Nat)/\Hid (Below w.heap.size w wq)) (λv wq=>n-(intOf v).toNat)
 case atStart=>exact⟨0,Nat.zero_le _,rfl,Lib.hid (zR _ _)⟩
 case round =>
  obtain⟨k,hk,rfl,bW⟩:=hrel;by_cases ab:k<n
  ·have aj:(k:Int)<(n:Int):=xM
   have dX:=bW.out.size;obtain⟨b,off,cp,hv,-,bS,hc⟩:=(h1.below bW.out).some_ xM;obtain⟨b',dK,Hi,jO,-,ik,cB⟩:=(h2.below bW.out).some_ xM;simp only[Value.slice.injEq]at hv jO;obtain⟨rfl,-,rfl⟩:=hv;obtain⟨rfl,-,rfl⟩:=jO;have g1:=hc k xM;have g2:=cB k xM;have aV:(es[k]'(by omega)).key=(fs[k]'(by omega)).key:=by
    have:=congrArg (λl=>l[k]?) mU;simpa[List.getElem?_eq_getElem (show k<es.length by omega),List.getElem?_eq_getElem (show k<fs.length by omega)]using this
   obtain⟨za,zc,rp⟩:=hz (es[k]'(by omega)) (List.getElem_mem _);obtain⟨zb,zd,Hq⟩:=bn (fs[k]'(by omega)) (List.getElem_mem _);obtain⟨x,hx⟩:=zE (es[k]'(by omega));obtain⟨y,hy⟩:=zE (fs[k]'(by omega));rw[hx]at g1 aV rp;rw[hy]at g2 aV Hq;have G1:AtC etE wr b (off+k*25) x:=g1;have G2:AtC etE wr b' (dK+k*25) y:=g2;clear g1 g2 hc cB hx hy;obtain⟨xv,aO⟩:=zE (etV x);obtain⟨yv,Hr⟩:=zE (etV y);go_upto_region 7 with(first
    |(refine a7z qM _ qM b (off+k*25) qM x G1 _ aO ?_)
    |(refine a8y qM _ _ qM wr.heap.size rfl qM x (by exact aO.symm) ?_))
   try go_frame
   have k6:=Blk.new wr (etA x) 50;have bC:Below wr.heap.size wr (wr.alloc (.cells (etA x) 50)):=(zR _ _).alloc (yR _) _;obtain⟨W1,ao⟩:=zE (wr.alloc (.cells (etA x) 50));rw[ao]at k6 bC ⊢;clear ao;have G3:=G2.below (bC.mono dX) ik;obtain⟨B6,rR⟩:=zE wr.heap.size;have uW:Below wr.heap.size wr W1:=bC;rw[rR]at k6 ⊢;go_upto_region 8 with(first
    |(refine a7z qM _ qM b' (dK+k*25) qM y G3 _ Hr ?_)
    |(refine a8y qM _ _ qM W1.heap.size rfl qM y (by exact Hr.symm) ?_))
   try go_frame
   have k7:=Blk.new W1 (etA y) 50;have jC:Below W1.heap.size W1 (W1.alloc (.cells (etA y) 50)):=(zR _ _).alloc (yR _) _;replace k6:=k6.alloc (.cells (etA y) 50);obtain⟨W2,bQ⟩:=zE (W1.alloc (.cells (etA y) 50));rw[bQ]at k6 k7 jC ⊢;clear bQ;have a8:Below w.heap.size w W2:=bW.out.trans ((uW.mono dX).trans (jC.mono (by have:=uW.size;omega)));obtain⟨B7,nY⟩:=zE W1.heap.size;rw[nY]at k7 ⊢;clear G1 G2 G3 aO Hr bC uW jC h1 h2;obtain⟨xk,xi,xn,xx,xy,⟨f0,f1,f2,f3,f4⟩,xw,⟨p0,p1,p2,p3,p4,p5,p6⟩⟩:=x;obtain⟨yk,yi,yn,yx,yy,yf,yw,yp⟩:=y;simp only at rp Hq;subst rp Hq;simp only[Et.key,Ed.mk.injEq,Prod.mk.injEq]at aV;obtain⟨rfl,rfl,rfl,⟨rfl,rfl⟩,rfl,-,rfl⟩:=aV;unfold zw at k6 k7;obtain⟨c0,c1,c2,c3,c4,c5,c6,c7,c8,c9,Ku,eG,Kv,Kw,Kz,KA,KB,KC,KD,KE,KF,KG,KH,KI,KJ⟩:=c8k k6;obtain⟨e0,e1,e2,e3,e4,e5,e6,e7,e8,e9,bH,xU,KK,KL,KM,xV,KN,KO,KP,KQ,KR,KS,KT,KV,KW⟩:=c8k k7;have n1:∀w,(binOp .neq 41 (.agg #[.int .i64 xx,.int .i64 xy]) (.agg #[.int .i64 xx,.int .i64 xy])).run prog w= .ok (.bool false) w:=λw=>by rw[c3s];simp
   have n2:∀w,(binOp .neq 43 (.agg #[.int .i64 f0,.string f1,.string f2,.int .i64 f3,.int .i64 f4]) (.agg #[.int .i64 f0,.string f1,.string f2,.int .i64 f3,.int .i64 f4])).run prog w= .ok (.bool false) w:=λw=>by rw[c3t];simp
   have n3:=b0c p0 p1 p2 p3 p4 p5 p6;have bP:=run_eqGuard_agg (P:=prog);have kA:=(Blk.new W2 #[.int .i64 0,.slice za 0 zc,.int .i64 0,.string ⟨#[]⟩,.string ⟨#[]⟩,.bool false,.int .i64 0,.int .i64 0] 46).alloc (.cells #[.int .i64 0,.slice zb 0 zd,.int .i64 0,.string ⟨#[]⟩,.string ⟨#[]⟩,.bool false,.int .i64 0,.int .i64 0] 46);have kB:=Blk.new (W2.alloc (.cells #[.int .i64 0,.slice za 0 zc,.int .i64 0,.string ⟨#[]⟩,.string ⟨#[]⟩,.bool false,.int .i64 0,.int .i64 0] 46)) #[.int .i64 0,.slice zb 0 zd,.int .i64 0,.string ⟨#[]⟩,.string ⟨#[]⟩,.bool false,.int .i64 0,.int .i64 0] 46;rw[World.size_alloc]at kB;have gI:Below W2.heap.size W2 ((W2.alloc (.cells #[.int .i64 0,.slice za 0 zc,.int .i64 0,.string ⟨#[]⟩,.string ⟨#[]⟩,.bool false,.int .i64 0,.int .i64 0] 46)).alloc (.cells #[.int .i64 0,.slice zb 0 zd,.int .i64 0,.string ⟨#[]⟩,.string ⟨#[]⟩,.bool false,.int .i64 0,.int .i64 0] 46)):=by exact zC
   have qL:=a8x [zw za zc] [zw zb zd] [] (λy hy=>⟨za,zc,by simpa using hy⟩) (λy hy=>⟨zb,zd,by simpa using hy⟩) rfl none none (some ⟨W2.heap.size,0,none⟩) none none none (some ⟨W2.heap.size+1,0,none⟩) none 0 0 1 0 0 0 1 0 _ (a8z (E:=wqE) kA uM) (Lst.nil _ _ _) (a8z (E:=wqE) kB vM) (Lst.nil _ _ _) vM vM;simp only[List.length_cons,List.length_nil,Nat.zero_add]at qL;go_upto_region 9 with(first
    |(go_at_call 40;(with_reducible refine qL.mono ?_);rintro e W5⟨rfl,aI⟩))
   have uX:Below W2.heap.size W2 W5:=gI.trans (aI.mono gI.size);have Pw:=k6.below uX k6.lt;have Px:=k7.below uX k7.lt;clear c0 c1 c2 c3 c4 c5 c6 c7 c8 c9 Ku eG Kv Kw Kz KA KB KC KD KE KF KG KH KI KJ e0 e1 e2 e3 e4 e5 e6 e7 e8 e9 bH xU KK KL KM xV KN KO KP KQ KR KS KT KV KW kA kB qL k6 k7 gI aI;obtain⟨c0,c1,c2,c3,c4,c5,c6,c7,c8,c9,Ku,eG,Kv,Kw,Kz,KA,KB,KC,KD,KE,KF,KG,KH,KI,KJ⟩:=c8k Pw;obtain⟨e0,e1,e2,e3,e4,e5,e6,e7,e8,e9,bH,xU,KK,KL,KM,xV,KN,KO,KP,KQ,KR,KS,KT,KV,KW⟩:=c8k Px;have rq:=Lib.hid (a8.trans (uX.mono a8.size));go_upto_region 5 with fail;go_wp2_with fail;go_roundw
   case rel=>exact⟨k+1,xM,by go_num,rq⟩
   case measure=>simp[intOf];omega
  ·obtain rfl:k=n:=xM
   have aT:¬(k:Int)<(k:Int):=xM;go_wp2_with fail;go_ret;exact⟨rfl,bW.out⟩
def a3y :List Pc:=[a1x 5 2 1,a1x 6 1 2]
def c5f :List Pc:=[a1x 5 1 1,a1x 6 3 2]
def c2u :List Pc:=[a1x 5 2 1,a1x 6 3 2]
def a9a :List Pc:=[a1x 5 3 1,a1x 6 1 2]
def a6w :List Pc:=[a1x 6 1 2]
def a7q :List Pc:=[a1x 4 1 9,a1x 6 1 2]
def a7m :List Pc:=[a1x 5 1 1,a1x 6 1 2,a1x 4 1 9]
def a4o :List Pc:=[a1x 5 1 1,a1x 6 1 2,a1x 4 2 9]
def movedL :List Pc:=[a1x 6 1 3]
theorem Mg.of {A L R want:List Pc}{cs:List Int}(S0:List Int)(h1:S0.Nodup)(h2:S0.Pairwise (·<=·))(h3:∀i,i∈S0↔i∈A.map Pc.id\/i∈L.map Pc.id\/i∈R.map Pc.id)(h4:b6i A L R S0=want)(h5:a7y A L R S0=cs):Mg A L R want cs:=λS a b c=>by
 have hp:S.Perm S0:=(List.perm_ext_iff_of_nodup a h1).2 λi=>(c i).trans (h3 i).symm
 obtain rfl:S=S0:=a1q (λi:Int=>i) b h2 hp (by simpa using a);exact⟨h4,h5⟩
theorem mg1 :Mg comL a3y c5f c2u []:=Mg.of [5,6] jM jM (λi=>by simp[comL,a3y,c5f,a1x]) (by decide +kernel) (by decide +kernel)
theorem d0d :Mg comL c5f a3y c2u []:=Mg.of [5,6] jM jM (λi=>by simp[comL,a3y,c5f,a1x]) (by decide +kernel) (by decide +kernel)
theorem mg2 :Mg comL a3y a9a comL [5]:=Mg.of [5,6] jM jM (λi=>by simp[comL,a3y,a9a,a1x]) (by decide +kernel) (by decide +kernel)
theorem d0e :Mg comL a9a a3y comL [5]:=Mg.of [5,6] jM jM (λi=>by simp[comL,a3y,a9a,a1x]) (by decide +kernel) (by decide +kernel)
theorem mg3 :Mg comL a6w a3y comL [5]:=Mg.of [5,6] jM jM (λi=>by simp[comL,a3y,a6w,a1x];try omega) (by decide +kernel) (by decide +kernel)
theorem d0f :Mg comL a3y a6w comL [5]:=Mg.of [5,6] jM jM (λi=>by simp[comL,a3y,a6w,a1x];try omega) (by decide +kernel) (by decide +kernel)
theorem mg4 :Mg comL a6w a7q a7q []:=Mg.of [4,5,6] jM jM (λi=>by simp[comL,a7q,a6w,a1x];try omega) (by decide +kernel) (by decide +kernel)
theorem d0g :Mg comL a7q a6w a7q []:=Mg.of [4,5,6] jM jM (λi=>by simp[comL,a7q,a6w,a1x];try omega) (by decide +kernel) (by decide +kernel)
theorem mg5 :Mg comL a7m a4o comL [4]:=Mg.of [4,5,6] jM jM (λi=>by simp[comL,a7m,a4o,a1x];try omega) (by decide +kernel) (by decide +kernel)
theorem d0h :Mg comL a4o a7m comL [4]:=Mg.of [4,5,6] jM jM (λi=>by simp[comL,a7m,a4o,a1x];try omega) (by decide +kernel) (by decide +kernel)
theorem c6l :Inc Pc.id c2u:=by unfold Inc;decide
theorem c2v :Inc Pc.id comL:=by unfold Inc;decide
theorem c6m :Inc Pc.id a7q:=by unfold Inc;decide
theorem a1p {α:Type}{l:List α}(h:([]:List α).Perm l):l=[]:=List.nil_perm.1 h
theorem c2w {a b:Mp}{R:List Int}(ha:NormR (a1d [] [] [] comL) a)(hb:NormR (a1d [] [] [] movedL) b)(hn:R.Nodup)(hR:∀i,i∈R↔(i∈a.w.map Wk.id/\i∉b.w.map Wk.id)\/(i∈a.p.map Pc.id/\i∉b.p.map Pc.id)):a2m R a b=[a9e 5,a3k (a1x 6 1 3)]:=by
 obtain⟨ae,af,aw,ap⟩:=a;obtain⟨be,bf,bw,bp⟩:=b;obtain⟨⟨a1,-⟩,⟨a2,-⟩,⟨a3,-⟩,⟨a4,-⟩⟩:=ha;obtain⟨⟨b1,-⟩,⟨b2,-⟩,⟨b3,-⟩,⟨b4,-⟩⟩:=hb;simp only[a1d,List.map_nil]at *;obtain rfl:=a1p a1;obtain rfl:=a1p a2;obtain rfl:=a1p a3;obtain rfl:=a1p b1;obtain rfl:=a1p b2;obtain rfl:=a1p b3;obtain rfl:bp=movedL:=List.perm_singleton.1 b4.symm;have hm:∀i,i∈R↔i=5:=λi=>by
  rw[hR i,(a4.symm.map Pc.id).mem_iff];simp[comL,movedL,a1x];omega
 have hr:R=[5]:=List.perm_singleton.1 ((List.perm_ext_iff_of_nodup hn jM).2 λi=>(hm i).trans vM);have fK:a1x 6 1 3∉ap:=λh=>by
  have:=a4.mem_iff.2 h;revert this;decide +kernel
 subst hr;unfold a2m movedL;simp[fK]
theorem b9j {a b:Mp}(ha:NormR (a1d [] [] [] comL) a)(hb:NormR (a1d [] [] [] movedL) b):a2c a b=true:=by
 obtain⟨ae,af,aw,ap⟩:=a;obtain⟨be,bf,bw,bp⟩:=b;obtain⟨⟨a1,-⟩,⟨a2,-⟩,-,-⟩:=ha;obtain⟨⟨b1,-⟩,⟨b2,-⟩,-,-⟩:=hb;simp only[a1d,List.map_nil]at *;obtain rfl:=a1p a1;obtain rfl:=a1p a2;obtain rfl:=a1p b1;obtain rfl:=a1p b2;rfl
end
end Go.Proofs.YteijfnkidefekaaGreat
