/-
  Parts.
-/
import Derived.Test.YtfocdbjceedagaaGreatDoorCap
set_option linter.unusedVariables false
set_option linter.unusedSimpArgs false
set_option maxHeartbeats 8000000
set_option maxRecDepth 100000
namespace Go.Proofs.YtfocdbjceedagaaGreatDoor
open Tryz
section
open Go.RowKit Go.Shelf Go.Lib Go.Sort
theorem b3r (blk off cap N n a b:Nat)(d:Array Pc)(w0 w:Wd)(hW:SoW w0 blk off N n d w)(bL:a<=b)(lT:b<=n)(hn:n<=1000) :
 Calls prog 170 #[.slice (some ⟨blk,off,none⟩) n cap,.int .i64 (a:Nat),.int .i64 (b:Nat),.func (.func 103) #[] #[]] w λe w'=>e= .returned (.tuple #[])/\SoW w0 blk off N n (insertionSort (ltOf a1o) d a b) w':=by
 have mixed:prog.follows .mixedOrders=true:=by kernel_rfl
 have HW:Hid (SoW w0 blk off N n d w):=hW;clear hW;go_enter func170,ntmps170;go_wp2_with fail;go_loopw [8] (λvi wr=>∃(i:Nat) (dk:Array Pc),vi= .int .i64 (i:Nat)/\a+1<=i/\i<=b+1/\Hid (SoW w0 blk off N n dk wr)/\Hid (insOuter (ltOf a1o) a b i dk=insOuter (ltOf a1o) a b (a+1) d)) (λvi _=>b+1-(intOf vi).toNat)
 case atStart=>exact⟨a+1,d,by go_num,oM,oM,HW,rfl⟩
 case round =>
  obtain⟨i,dk,rfl,el,bP,HR,HO⟩:=hrel;by_cases ag:i<b
  ·have aA:(i:Int)<(b:Int):=oM
   go_wp2_with fail;go_loopw [9] (λvj Hb=>∃(j:Nat) (dj:Array Pc),vj= .int .i64 (j:Nat)/\a<=j/\j<=i/\Hid (SoW w0 blk off N n dj Hb)/\Hid (insInner (ltOf a1o) a j dj=insInner (ltOf a1o) a i dk)) (λvj _=>(intOf vj).toNat)
   case atStart=>exact⟨i,dk,rfl,oM,oM,HR,rfl⟩
   case round =>
    obtain⟨j,dj,rfl,Uw,ja,HJ,HI⟩:=hrel;have out:Hid ((j<=a\/ltOf a1o dj[j]! dj[j-1]! =false)->insOuter (ltOf a1o) a b (i+1) dj=insOuter (ltOf a1o) a b (a+1) d):=λhs=>by
     rw[<-HO.out,insOuter_go _ _ _ _ _ ag,<-HI.out,insInner_stop _ _ _ _ hs]
    by_cases fC:a<j
    ·have xr:(a:Int)<(j:Int):=oM
     obtain⟨jp,rfl⟩:∃jp,j=jp+1:=⟨j-1,oM⟩;have Ux:(a:Int)<(jp:Int)+1:=oM;have vm:jp+1<dj.size:=by rw[HJ.out.sz];omega
     obtain⟨xj,xu⟩:=zE (dj[jp+1]!);obtain⟨xp,jH⟩:=zE (dj[jp]!);obtain⟨a0,a1,a2,a3,a4,a5,a6⟩:=xu▸HJ.out.row.pc vm;obtain⟨b0,b1,b2,b3,b4,b5,b6⟩:=jH▸HJ.out.row.pc (j:=jp) oM;have HX:Hid (dj[jp+1]! =xj/\dj[jp]! =xp):=⟨xu,jH⟩;obtain⟨cv,fL⟩:=zE (a1o xj xp);have j8:∀W,Zc prog 103 #[plV xj,plV xp] W (.int .i64 cv):=λW=>by rw[<-fL];exact a6m xj xp W
     have HC:Hid (a1o xj xp=cv):=fL;clear xu jH fL;obtain⟨i1,x1,y1,tD,n1,xw,d1⟩:=xj;obtain⟨i2,x2,y2,tE,n2,rY,d2⟩:=xp;have Fq:IntKind.i64.wrap (jp:Int)=(jp:Int):=by rw[IntKind.wrap_i64];omega
     have Hc:(jp:Int)+1<(n:Int):=oM;have Cw:(jp:Int)<(n:Int):=oM;have dz:(0:Int)<=(jp:Int)+1:=oM;have tF:((jp:Int)+1).toNat=jp+1:=oM;by_cases aJ:cv<0
     ·go_wp2_with fail
      refine zR2 λp=> ?_
      go_upto_region 6 with fail;obtain⟨W2,bV⟩:=zE (wr.growBy p);rw[bV];have mB:SoW w0 blk off N n dj W2:=by rw[<-bV];exact HJ.out.below (below_growBy _ _)
      clear a0 a1 a2 a3 a4 a5 a6 b0 b1 b2 b3 b4 b5 b6 bV j8;obtain⟨a0,a1,a2,a3,a4,a5,a6⟩:=HX.out.1▸mB.row.pc vm;obtain⟨b0,b1,b2,b3,b4,b5,b6⟩:=HX.out.2▸mB.row.pc (j:=jp) oM;obtain⟨f0,f1,f2,f3,f4,f5,f6⟩:=mB.row.pf vm;obtain⟨g0,g1,g2,g3,g4,g5,g6⟩:=mB.row.pf (j:=jp) oM;have Al:=Lib.hid (mB.swap (j:=jp) oM);have OC:jp+1<n:=oM;replace mB:=Lib.hid mB;simp only at a0 a1 a2 a3 a4 a5 a6 b0 b1 b2 b3 b4 b5 b6;go_big_region_o
      all_goals go_wp2_with fail
      go_roundw
      case rel =>
       refine⟨jp,swp dj (jp+1) jp,by go_num,oM,oM,?_,?_⟩
       ·exact yib
       ·show _=_
        have h4:=insInner_go (ltOf a1o) a (jp+1) dj fC (by rw[HX.out.1,show jp+1-1=jp from rfl,HX.out.2,d3s,HC.out];exact aJ);rw[<-HI.out,h4];rfl
      case measure=>exact yaz
     ·exact ydn
    ·obtain rfl:j=a:=oM
     have xr:¬(j:Int)<(j:Int):=oM;have Lr:=out.out (.inl (yR _));go_wp2_with fail;go_big_region_o
     all_goals go_wp2_with fail
     exact yjb
  ·have iF:¬(i:Int)<(b:Int):=oM
   exact ygu
theorem c3k (blk cap N n:Nat)(d:Array Pc)(w:Wd)(hW:SoW w blk 0 N n d w)(hn:n<=1000) :
 Calls prog 150 #[.slice (some ⟨blk,0,none⟩) n cap,.int .i64 (n:Nat),.func (.func 103) #[] #[]] w λe w'=>e= .returned (.tuple #[])/\SoW w blk 0 N n (insertionSort (ltOf a1o) d 0 n) w':=by
 have mixed:prog.follows .mixedOrders=true:=by kernel_rfl
 have HW:=Lib.hid hW;have vH:=hW.sz;clear hW;go_enter func150,ntmps150;go_wp2_with fail;go_loopw [7,8] (λva vb wr=>∃(a:Nat) (dk:Array Pc),va= .int .i64 (a:Nat)/\vb= .int .i64 ((a:Int)+20)/\a<=n/\Hid (SoW w blk 0 N n dk wr)/\Hid (InI (ltOf a1o) 20 a n d dk)) (λva _ _=>n+1-(intOf va).toNat)
 case atStart=>exact⟨0,d,rfl,rfl,oM,HW,Lib.hid (InI.start vH)⟩
 case round =>
  obtain⟨a,dk,rfl,rfl,yb,HR,HI⟩:=hrel;by_cases hle:a+20<=n
  ·have qU:(a:Int)+20<=(n:Int):=oM
   have hc:=b3r blk 0 cap N n a (a+20) dk w wr HR.out oM hle hn;rw[show((a+20:Nat):Int)=(a:Int)+20 by omega]at hc;have aE:IntKind.i64.wrap ((a:Int)+20+20)=(a:Int)+20+20:=by rw[IntKind.wrap_i64];omega
   have fB:=a2v (lt:=ltOf a1o) swoP dk (show a<=a+20 by omega) (by rw[HR.out.sz];exact hle);have Qu:=Lib.hid (HI.out.step hle fB);clear fB;go_wp2_with (first
    |(go_at_call 170;(with_reducible refine hc.mono ?_);rintro e w1⟨rfl,h1⟩))
   go_roundw
   case rel=>exact⟨a+20,_,by go_num,by go_num,hle,Lib.hid h1,Qu⟩
   case measure=>exact yaz
  ·have qU:¬(a:Int)+20<=(n:Int):=oM
   have hc:=b3r blk 0 cap N n a n dk w wr HR.out yb (yR _) hn;have fB:=a2v (lt:=ltOf a1o) swoP dk yb (by rw[HR.out.sz];exact yR _);obtain⟨bF,cF,az⟩:=HI.out.last jM yb oM fB;obtain⟨d2,dW⟩:=zE (insertionSort (ltOf a1o) dk a n);rw[dW]at hc bF cF az;replace cF:=Lib.hid cF;replace az:=Lib.hid az;clear fB dW HI;go_wp2_with (first
    |(go_at_call 170;(with_reducible refine hc.mono ?_);rintro e w1⟨rfl,h1⟩))
   replace h1:=Lib.hid h1;clear hc HR;go_loopw [6] (λvs wr=>∃(s:Nat) (dk:Array Pc),vs= .int .i64 (s:Nat)/\20<=s/\s<=2000/\Hid (SoW w blk 0 N n dk wr)/\Hid (Stb (ltOf a1o) (ext d 0 n) (ext dk 0 n))/\Hid (Bks (ltOf a1o) s n dk)) (λvs _=>3000-(intOf vs).toNat)
   case atStart=>exact⟨20,d2,rfl,oM,oM,h1,cF,az⟩
   case round =>
    obtain⟨s,Qv,rfl,Qw,cH,HR,HS,HB⟩:=hrel;by_cases dV:s<n
    ·have Qx:(s:Int)<(n:Int):=oM
     have mj:IntKind.i64.wrap (2*(s:Int))=2*(s:Int):=by rw[IntKind.wrap_i64];omega
     have Qy:IntKind.i64.wrap ((s:Int)*2)=(s:Int)*2:=by rw[IntKind.wrap_i64];omega
     go_wp2_with fail;go_loopw [7,8] (λva vb wr=>∃(a:Nat) (dk:Array Pc),va= .int .i64 (a:Nat)/\vb= .int .i64 ((a:Int)+2*(s:Int))/\a<=n/\Hid (SoW w blk 0 N n dk wr)/\Hid (MrI (ltOf a1o) s a n d dk)) (λva _ _=>n+1-(intOf va).toNat)
     case atStart=>exact⟨0,Qv,rfl,by go_num,oM,HR,Lib.hid (MrI.start HR.out.sz HS.out HB.out)⟩
     case round =>
      obtain⟨a,dk,rfl,rfl,yb,HK,HM⟩:=hrel;have Uy:IntKind.i64.wrap ((a:Int)+(s:Int))=(a:Int)+(s:Int):=by rw[IntKind.wrap_i64];omega
      by_cases hle:a+2*s<=n
      ·have qU:(a:Int)+2*(s:Int)<=(n:Int):=oM
       have Qz:IntKind.i64.wrap ((a:Int)+2*(s:Int)+2*(s:Int))=(a:Int)+2*(s:Int)+2*(s:Int):=by rw[IntKind.wrap_i64];omega
       obtain⟨g1,g2⟩:=HM.out.two;have hc:=a6z blk 0 cap N n w hn (2*s) a (a+s) (a+2*s) dk wr oM HK.out oM oM hle (SortedIn.mono g1 (yR _) oM) (SortedIn.mono g2 (yR _) oM);rw[show((a+s:Nat):Int)=(a:Int)+(s:Int) by omega,show((a+2*s:Nat):Int)=(a:Int)+2*(s:Int) by omega]at hc;clear g1 g2;go_wp2_with (first
        |(go_at_call 171;(with_reducible refine hc.mono ?_);rintro e w1⟨rfl,d3,h3,r3⟩))
       go_roundw
       case rel=>exact⟨a+2*s,d3,by go_num,by go_num,hle,Lib.hid h3,Lib.hid (HM.out.step oM hle r3)⟩
       case measure=>exact yaz
      ·have qU:¬(a:Int)+2*(s:Int)<=(n:Int):=oM
       by_cases QA:a+s<n
       ·have tj:(a:Int)+(s:Int)<(n:Int):=oM
        obtain⟨g1,g2⟩:=HM.out.two;have hc:=a6z blk 0 cap N n w hn (2*s) a (a+s) n dk wr oM HK.out oM QA (yR _) (SortedIn.mono g1 (yR _) oM) (SortedIn.mono g2 (yR _) oM);rw[show((a+s:Nat):Int)=(a:Int)+(s:Int) by omega]at hc;clear g1 g2;go_wp2_with (first
         |(go_at_call 171;(with_reducible refine hc.mono ?_);rintro e w1⟨rfl,d3,h3,r3⟩))
        go_roundw
        case rel =>
         obtain⟨-,k2,k3⟩:=HM.out.last oM yb oM r3;exact⟨2*s,d3,by go_num,oM,oM,Lib.hid h3,Lib.hid k2,Lib.hid k3⟩
        case measure=>exact yaz
       ·have tj:¬(a:Int)+(s:Int)<(n:Int):=oM
        go_wp2_with fail;go_roundw
        case rel =>
         obtain⟨-,k2,k3⟩:=HM.out.last0 oM yb oM;exact⟨2*s,dk,by go_num,oM,oM,HK,Lib.hid k2,Lib.hid k3⟩
        case measure=>exact yaz
    ·have Qx:¬(s:Int)<(n:Int):=oM
     go_wp2_with fail;go_end0;refine⟨rfl,?_⟩;rw[<-d0w swoP vH HR.out.sz HS.out HB.out oM];exact HR.out
theorem c3l (base:Nat)(v:Vu)(l:List Pc)(w:Wd)(hl:l.length<=1000)(ae:w.ownsRow base 66 7 v l.length (l.flatMap plE.enc)) :
 Calls prog 102 #[v,.func (.func 103) #[] #[]] w λe w'=>e= .returned (.tuple #[])/\w'.ownsRow base 66 7 v l.length ((a0q l).flatMap plE.enc)/\w.grownBy w' v.ownBlock:=by
 rcases ae.2 with⟨rfl,h0⟩|⟨g,cap,cur,rfl,hb,hg,h1,h2,h3,h4⟩
 ·obtain rfl:=List.eq_nil_of_length_eq_zero h0
  exact b9l base _ [] w vM ae
 ·obtain⟨hS,ed⟩:=b5k ae
  have c1:=c3k g cap (cap*7) l.length l.toArray w hS hl;clear ae hg h3 h4;go_enter func102,ntmps102;go_wp2_with (go_at_call 150;refine c1.mono ?_;rintro e w1⟨rfl,hd⟩);go_end0;exact⟨rfl,b5l hd ed h1 h2,hd.gr⟩
end
section
open Go Go.RowKit Go.Shelf Go.Lib
variable{W:Wd}
theorem c5x {n:Bw}(h:n≠⟨#[]⟩):n.toList.isEmpty=false:=by
 cases hc:n.toList.isEmpty with
 |false=>rfl
 |true =>
  rw[List.isEmpty_iff,ByteArray.toList_eq]at hc;refine absurd ?_ h
  cases n;simp only at hc;rw[Array.toList_eq_nil_iff]at hc;rw[hc]
def c8u (p:Pc):Option Ke:=if p.nm=⟨#[]⟩then none else if(a4v p.nm).2=0 then some ⟨p.id,p.id,(a4v p.nm).1⟩else none
def a2s (p:Pc):List Ke:=(c8u p).toList
abbrev keV (k:Ke):Value:= .agg #[.int .i64 k.n,.int .i64 k.p,.string k.c]
def e0c (o:Option Ke)(w:Wd)(e:Ending)(w':Wd):Prop:=∃k,e= .returned (.tuple #[keV k,.bool o.isSome])/\(∀x,o=some x->k=x)/\Below w.heap.size w w'
theorem d1a (p:Pc)(hp:p.nm.size<=1000)(w:Wd):
 Calls prog 37 #[plV p] w (e0c (c8u p) w):=by
 have hW:=c9x p.nm hp;unfold c8u;obtain⟨id,x,y,cl,nm,wt,ds⟩:=p;simp only at hW ⊢;by_cases hn:nm=⟨#[]⟩
 ·subst hn
  rw[if_pos rfl];go_enter func37,ntmps37;exact ybt
 ·rw[if_neg hn]
  have av:=c5x hn;obtain⟨c,hc⟩:=zE ((a4v nm).1);obtain⟨er,Dw⟩:=zE ((a4v nm).2);rw[hc,Dw]at hW ⊢;clear hc Dw hn;by_cases h0:er=0
  ·subst h0
   rw[if_pos rfl];go_enter func37,ntmps37;go_wp2_with (go_at_call 64;refine(hW _).mono ?_;rintro e w'⟨rfl,al⟩;obtain⟨p,rfl⟩:=a0c al;clear al);exact ybx
  ·rw[if_neg h0]
   have QB:(er==0)=false:=by simpa using h0
   go_enter func37,ntmps37;go_wp2_with (go_at_call 64;refine(hW _).mono ?_;rintro e w'⟨rfl,al⟩;obtain⟨p,rfl⟩:=a0c al;clear al);exact ybz
def a2m (s:Sh)(n:Nat):Int:=if a1h s=0 then if 80<n then 2 else 0 else a1h s
theorem b3s (s:Sh)(ev fv wv:Vu)(pa:Option Addr)(n pc:Nat)(w:Wd)(f0:fits s.ax)(f1:fits s.ay):
 Zc prog 33 #[.agg #[ev,fv,wv,.slice pa n pc],shV s] w (.int .i64 (a2m s n)):=by
 unfold a2m;obtain⟨r,hr⟩:=zE (a1h s);have hC:=λw=>a8r hr w f0 f1
 rw[hr];clear hr f0 f1;obtain⟨ax,ay,st,sw,sh,sg⟩:=s;by_cases h0:r=0
 ·subst h0
  rw[if_pos rfl];by_cases hn:80<n
  ·rw[if_pos hn]
   have CC:(80:Int)<(n:Int):=oM;exact ydv
  ·rw[if_neg hn]
   have CC:¬(80:Int)<(n:Int):=oM;exact ydv
 ·rw[if_neg h0]
  exact ydv
theorem a5r {base kR:Nat}{e:Td}{s:Nat}{v:Vu}{n:Nat}{xs:List Value}(h:W.ownsRow base e s v n xs)(hb:kR<=base):W.ownsRow kR e s v n xs:=by
 exact yin
theorem d1b {w W1 W2:Wd}{u:Vu}{l:List Pc}(aw:Below w.heap.size w W)(hr:W1.ownsRow W.heap.size 66 7 u l.length (l.flatMap plE.enc))(az:Below W.heap.size W W1)(bB:W2.ownsRow W.heap.size 66 7 u l.length ((a0q l).flatMap plE.enc))(hg:W1.grownBy W2 u.ownBlock):
 w.heap.size<=W.heap.size/\W2.ownsRow w.heap.size 66 7 u l.length ((a0q l).flatMap plE.enc)/\Below w.heap.size w W2:=by
 have h1:=aw.trans (az.mono aw.size);exact⟨aw.size,a5r bB aw.size,h1.trans (a1l hg h1.size (λk e=>Nat.le_trans aw.size (hr.lt k e).1))⟩
theorem a8g (ev fv wv pv:Vu)(l:List Pc)(w:Wd)(h:Lst plE w.heap.size w pv l)(hf:Frm pv l.length)(hl:l.length<=100):
 Calls prog 44 #[.agg #[ev,fv,wv,pv]] w λe w'=>∃v,e= .returned v/\w'.ownsRow w.heap.size 66 7 v l.length ((a0q l).flatMap plE.enc)/\Below w.heap.size w w':=by
 have aw:Below w.heap.size w (w.alloc (.cells #[ev,fv,wv,pv] 37)):=(zR _ _).alloc (yR _) _;have hC:=c1v pv l _ (h.up aw) hf oM;obtain⟨pa,pc,rfl,-⟩:=h.form;have hS:=λv W1 hr=>c3l (w.alloc (.cells #[ev,fv,wv,.slice pa l.length pc] 37)).heap.size v l W1 oM hr
 go_enter func44,ntmps44;go_upto_region 2 with(first
  |(go_at_call 101;refine hC.mono ?_;rintro e w1⟨u,rfl,cK,az⟩))
 have qp:=hS u w1 cK;clear hS hC h;go_wp2_with (first
  |(go_at_call 102;refine qp.mono ?_;rintro e w2⟨rfl,bB,cf⟩))
 go_ret;exact⟨u,rfl,(d1b aw cK az bB cf).2⟩
end
section
open Go Go.RowKit
def a7a :Obj->Bool
 |.loop _=>true
 |.deferred _=>true
 |_=>false
theorem a1s {o:Obj}(h:a7a o=true):o.isCells=false:=by
 cases o <;> first|rfl|cases h
def c7m (P:Program)(l:Nat)(R:Ending->World->Prop):Exit->Act->World->Prop
 |.normal,_,w=>∃v w',(Instr.endRound l none).run P w= .ok v w'/\R (.returned v) w'
 |.panic ch,a,w=>a.defers=[]/\R (.panicked ch) w
 |_,_,_=>False
theorem c0f {F:Fence}{n:Nat}{P:Program}{l:Nat}{f:FuncId}{tmps:Array Value}{assign body:Code}{w:Wd}{R:Ending->World->Prop}(hF:F.fn f)(hf:∀ch w,R (.panicked ch) w->∃fn,P.funcs[f]? =some fn)
 (h:assign.wpIn (F.inRound l) n P (Exit.then (λdS w₁=>∃w₂,(Instr.beginRound l).run P w₁= .ok () w₂/\body.wpIn (F.inRound l) n P (c7m P l R) dS w₂) (λ_ _ _=>False)) { tmps:=tmps,defers:=[] } w) :
 RoundIn F n P l f tmps assign body w R:=by
 refine⟨hF,λc cs hr=> ?_⟩;let b:Frame:={ (default:Frame)with fn:=f,kind:= .normal,roundOf:=some l }
 have ed:Frame.round l f tmps assign body .normal=b.atR { tmps:=tmps,defers:=[] } [.code assign,.beginRound,.code body]:=by simp[Frame.round,Frame.atR,b]
 have lV:(F.inRound l).room ((c::cs).length+1+n):=hr;have Dx:(F.inRound l).fn b.fn:=hF;obtain⟨e,dS,w₁,hq,Dy⟩:=h b [.beginRound,.code body] (c::cs) rfl Dx lV;rw[<-ed]at Dy
 cases e <;> try exact hq.elim
 obtain⟨w₂,aL,eO⟩:=hq;have s1:StepsIn (Machine.fenced P (F.inRound l)) P (lone (b.atR dS [.beginRound,.code body]) (c::cs) w₁) (lone (b.atR dS [.code body]) (c::cs) w₂) :=
  .one (fenced_calm (fr:=b.atR dS [.beginRound,.code body]) Dx lV rfl) (stepR_beginRound rfl aL)
 obtain⟨yf,qV,oL,kV,nH⟩:=eO b [] (c::cs) rfl Dx lV;have s2:=StepsIn.trans Dy s1
 cases yf <;> try exact kV.elim
 case normal =>
  obtain⟨v,yg,dC,hR⟩:=kV;exact⟨.returned v,yg,hR,s2.trans (StepsIn.trans nH (.one (fenced_calm (fr:=b.atR qV []) Dx lV rfl) (stepR_round_end rfl rfl dC)))⟩
 case panic ch =>
  obtain⟨hd,hR⟩:=kV;obtain⟨todo,hs⟩:=nH;have qW:Frame.leaving P { b.atR qV todo with mode:= .panicking ch } oL (.panicked ch):=⟨rfl,hd,hf ch oL hR⟩;have hl:(lone { b.atR qV todo with mode:= .panicking ch } (c::cs) oL).fenced P (F.inRound l):=fenced_leaving Dx lV qW;exact⟨.panicked ch,oL,hR,s2.trans (StepsIn.trans hs (.one hl (step_leave_panicked qW)))⟩
structure KeepP (C:World->Nat->Prop)(n0:Nat)(A B:Wd):Prop where
 k:KeepC C A B
 b:Below n0 A B
def e0u {α:Type}(F:Fence)(n:Nat)(P:Program)(g:Nat)(lb:Array Value)(fm:α->Array Value)(C:World->Nat->Prop)(n0:Nat)(Kx:List α->α->World->Prop)(S:List α->Prop)(N:Nat)(w:Wd):Prop :=
 ∀(l:Nat) (J:List α->World->Prop) (Jp:List PanicEntry->World->Prop) (W:Wd),Below w.heap.size w W ->
  (∀s A A' row,J s A->A.grownBy A' row->(∀r,row=some r->W.heap.size<=r/\¬C A r)->J s A')->(∀s A A' row k,J s A->A.grownBy A' row->(∀r,row=some r->¬C A r)->C A' k->C A k)->(∀k,C W k->k<W.heap.size) ->
  (∀pre x W1,J pre W1->Kx pre x W1->pre.length<N->YieldAt F (n-1) P l (fm x) W1 λe W'=>(e= .returned (.bool true)/\J (pre++[x]) W'/\KeepP C n0 W1 W')\/∃ch,e= .panicked ch/\Jp ch W')->J [] W ->
  CallsIn F n P g (#[.func (.yield l) #[] #[]]++lb) W λe W'=>((∃v,e= .returned v)/\∃xs,S xs/\J xs W')\/∃ch,e= .panicked ch/\Jp ch W'
theorem b0k {F:Fence}{n:Nat}{P:Program}{α:Type}{g:Operand}{ps:Array Tmp}{assign body:Code}{Q:Exit->Act->World->Prop}{a:Act}{w:Wd}
 (fU:F.round=none) (h1:1<=n) {gf:Nat} {lb:Array Value} (hg:a.eval g= .func (.func gf) #[] lb) (ou:F.fn gf) (eg:∀args w,(callFunc gf args).run P w= .ok (.enter gf args) w)
 {fm:α->Array Value} {C:World->Nat->Prop} (hC:∀(W:Wd) (l k:Nat) (o o':Obj),W.heap[l]? =some o->a7a o=true->a7a o'=true->(C (W.putObj l o') k↔C W k)) (iy:∀(W:Wd) (l:Nat) (o:Obj),W.heap[l]? =some o->a7a o=true->¬C W l)
 (jY:∀(W:Wd) (k:Nat) (o:Obj),C (W.alloc o) k->a7a o=true->C W k) (pN:∀k,C w k->k<w.heap.size)
 {n0:Nat} (fE:n0<=w.heap.size) {Kx:List α->α->World->Prop} (zZ:∀pre x (W:Wd) (l:Nat) (o o':Obj),W.heap[l]? =some o->a7a o=true->a7a o'=true->Kx pre x W->Kx pre x (W.putObj l o')) {S:List α->Prop} {N:Nat} {w0:Wd} (bN:e0u F (n-1) P gf lb fm C n0 Kx S N w0) (ed:Below w0.heap.size w0 w) (eT:∀x,(fm x).size=ps.size)
 (I:List α->World->Prop) (hI:∀pre A A' row,I pre A->A.grownBy A' row->(∀r,row=some r->w.heap.size<=r/\¬C A r)->I pre A') (hIC:∀pre A A' row k,I pre A->A.grownBy A' row->(∀r,row=some r->¬C A r)->C A' k->C A k) (h0:I [] w) (Ip:List PanicEntry->World->Prop) (nE:∀ch W,Ip ch W->∀fn,F.fn fn->∃x,P.funcs[fn]? =some x) (tb:Td) (bx:α->Array Value) (zY:∀pre x (W:Wd) (o:Obj),Kx pre x W->Kx pre x (W.alloc o)) (lN:∀pre W k,I pre W->C W k->k<W.heap.size) (dS:α->Nat->Act)
 (cg:∀(l:Nat) (pre:List α) (x:α) (W:Wd) (K:Act->World->Prop),Kx pre x W->K (dS x W.heap.size) (W.alloc (.cells (bx x) tb))->assign.wpIn (F.inRound l) (n-1-1) P (Exit.then K (λ_ _ _=>False)) { tmps:=(ps.zip (fm x)).foldl (λt (p,v)=>t.setIfInBounds p v) a.tmps,defers:=[] } W)
 (eO:∀(l:Nat) (pre:List α) (x:α) (W:Wd) (B:Nat),I pre W->Kx pre x W->Blk W B (bx x) tb->w.heap.size<=B->(∀k,C W k->k≠B)->pre.length<N->body.wpIn (F.inRound l) (n-1-1) P (λe a' W'=>(e= .normal/\KeepP C n0 W W'/\I (pre++[x]) W')\/∃ch,e= .panic ch/\a'.defers=[]/\KeepP C n0 W W'/\Ip ch W') (dS x B) W)
 (hpan:∀(D:Nat) (ch:List PanicEntry) (W:Wd),w.heap.size<=D->Ip ch W->W.heap[D]? =some (.deferred (some []))->Q (.panic ch) { a with defers:={ target:= .collected D,args:= #[] }::a.defers } W)
 (eQ:∀(D:Nat) (xs:List α) (W:Wd),w.heap.size<=D->S xs->I xs W->W.heap[D]? =some (.deferred (some []))->Q .normal { a with defers:={ target:= .collected D,args:= #[] }::a.defers } W) :
 (Code.rangeFunc g ps assign body).wpIn F n P Q a w:=by
 refine wpIn_rangeFunc λfn hfn=> ?_
 rw[fU];obtain⟨D,hD⟩:=zE w.heap.size;let R:LoopState->Option Code->Loop:=λst pe=>{ state:=st,pending:=pe,fn,tmps:=a.tmps,params:=ps,assign,body,defers:=D }
 let W1:World:=(w.alloc (.deferred (some []))).alloc (.loop (R .ready none))
 have s1:W1.heap.size=D+2:=by simp[W1,hD]
 have g1:w.grownBy W1 none:=by
  exact ydu
 have l1:W1.heap[D+1]? =some (.loop (R .ready none)):=by
  exact yjc
 have d1:W1.heap[D]? =some (.deferred (some [])):=by
  exact yhr
 have IN:∀k,C W1 k->k<W1.heap.size:=λk hk=>by
  have:=pN k (jY _ k _ (jY _ k _ hk rfl) rfl);omega
 refine⟨D+1,[{ target:= .collected D,args:= #[] }],W1,{ target:= .fn (.func gf) lb,args:= #[.func (.yield (D+1)) #[] #[]] },W1,gf,#[.func (.yield (D+1)) #[] #[]]++lb,W1,?_,?_,?_,?_,λ_=>h1,?_⟩
 ·subst hD
  exact run_enterLoop_outer _ _ _ _ _
 ·simp only[resolve,hg]
  simp[go_sem]
 ·intro f' sF
  simp[Target.leads]at sF;subst sF;exact ou
 ·simp[invoke,go_sem,eg]
 ·have aw:Below w0.heap.size w0 W1:=ed.trans ((show Below w.heap.size w W1 from⟨g1.os,g1.tape,g1.output,g1.size,λk hk=>g1.block k hk vM⟩).mono ed.size)
  refine(bN (D+1) (λpre W=>I pre W/\W.heap[D+1]? =some (.loop (R .ready none))/\W.heap[D]? =some (.deferred (some []))) (λch W=>Ip ch W/\W.heap[D]? =some (.deferred (some []))) W1 aw ?_ (λs A A' row k hJ=>hIC s A A' row k hJ.1) IN ?_ ⟨hI [] w W1 none h0 g1 vM,l1,d1⟩).mono ?_
  ·exact ydf
  ·rintro pre x W⟨hi,hl,hd⟩ Fc hlen
   have ag:D+1<W.heap.size:=(Array.getElem?_eq_some_iff.1 hl).1;have hy:=run_yield (P:=P) (args:=fm x) hl (eT x);refine⟨fn,_,assign,body,hy,c0f hfn (λch w hR=>hR.elim (λh=>nomatch h.1) (λh=>by obtain⟨Uz,h1,h2⟩:=h;cases h1;exact nE ch w h2.1 fn hfn)) (cg _ pre x W _ Fc ?_)⟩;exact yag
  ·rintro e W2 (⟨⟨v,rfl⟩,xs,hS,hi,hl,hd⟩|⟨ch,rfl,hp,hd⟩)
   rotate_left
   ·exact hpan D ch W2 oM hp hd
   have hr:=run_endLoop (P:=P) hl (by simp[R]);refine⟨none,_,hr,?_⟩;exact ygs
theorem a9f {F:Fence}{n:Nat}{P:Program}{α:Type}{g:Operand}(slot iE:Nat)(fj:α->Value){assign body:Code}{Q:Exit->Act->World->Prop}{a:Act}{w:Wd}
 (fU:F.round=none) (h1:1<=n) {gf:Nat} {lb:Array Value} (hg:a.eval g= .func (.func gf) #[] lb) (ou:F.fn gf) (eg:∀args w,(callFunc gf args).run P w= .ok (.enter gf args) w)
 {C:World->Nat->Prop} (hC:∀(W:Wd) (l k:Nat) (o o':Obj),W.heap[l]? =some o->a7a o=true->a7a o'=true->(C (W.putObj l o') k↔C W k)) (iy:∀(W:Wd) (l:Nat) (o:Obj),W.heap[l]? =some o->a7a o=true->¬C W l)
 (jY:∀(W:Wd) (k:Nat) (o:Obj),C (W.alloc o) k->a7a o=true->C W k) (pN:∀k,C w k->k<w.heap.size)
 {n0:Nat} (fE:n0<=w.heap.size) {Kx:List α->α->World->Prop} (zZ:∀pre x (W:Wd) (l:Nat) (o o':Obj),W.heap[l]? =some o->a7a o=true->a7a o'=true->Kx pre x W->Kx pre x (W.putObj l o')) {S:List α->Prop} {N:Nat} {w0:Wd} (bN:e0u F (n-1) P gf lb (λx=> #[fj x]) C n0 Kx S N w0) (ed:Below w0.heap.size w0 w)
 (I:List α->World->Prop) (hI:∀pre A A' row,I pre A->A.grownBy A' row->(∀r,row=some r->w.heap.size<=r/\¬C A r)->I pre A') (hIC:∀pre A A' row k,I pre A->A.grownBy A' row->(∀r,row=some r->¬C A r)->C A' k->C A k) (h0:I [] w) (Ip:List PanicEntry->World->Prop) (nE:∀ch W,Ip ch W->∀fn,F.fn fn->∃x,P.funcs[fn]? =some x) (tb:Td) (bx:α->Array Value) (zY:∀pre x (W:Wd) (o:Obj),Kx pre x W->Kx pre x (W.alloc o)) (lN:∀pre W k,I pre W->C W k->k<W.heap.size)
 (cg:∀(l:Nat) (pre:List α) (x:α) (W:Wd) (K:Act->World->Prop),Kx pre x W->(∀a',a'={ tmps:=(a.tmps.setIfInBounds slot (fj x)).setIfInBounds iE (.pointer (some ⟨W.heap.size,0,none⟩)),defers:=[] }->K a' (W.alloc (.cells (bx x) tb)))->assign.wpIn (F.inRound l) (n-1-1) P (Exit.then K (λ_ _ _=>False)) { tmps:=a.tmps.setIfInBounds slot (fj x),defers:=[] } W)
 (eO:∀(l:Nat) (pre:List α) (x:α) (W:Wd) (B:Nat),I pre W->Kx pre x W->Blk W B (bx x) tb->w.heap.size<=B->(∀k,C W k->k≠B)->pre.length<N->body.wpIn (F.inRound l) (n-1-1) P (λe a' W'=>(e= .normal/\KeepP C n0 W W'/\I (pre++[x]) W')\/∃ch,e= .panic ch/\a'.defers=[]/\KeepP C n0 W W'/\Ip ch W') ({ tmps:=(a.tmps.setIfInBounds slot (fj x)).setIfInBounds iE (.pointer (some ⟨B,0,none⟩)),defers:=[] }:Act) W)
 (hpan:∀(D:Nat) (ch:List PanicEntry) (W:Wd),w.heap.size<=D->Ip ch W->W.heap[D]? =some (.deferred (some []))->Q (.panic ch) { a with defers:={ target:= .collected D,args:= #[] }::a.defers } W)
 (eQ:∀(D:Nat) (xs:List α) (W:Wd),w.heap.size<=D->S xs->I xs W->W.heap[D]? =some (.deferred (some []))->Q .normal { a with defers:={ target:= .collected D,args:= #[] }::a.defers } W) :
 (Code.rangeFunc g #[slot] assign body).wpIn F n P Q a w :=
 b0k fU h1 hg ou eg hC iy jY pN fE zZ bN ed (λ_=>rfl) I hI hIC h0 Ip nE tb bx zY lN (λx B=>{ tmps:=(a.tmps.setIfInBounds slot (fj x)).setIfInBounds iE (.pointer (some ⟨B,0,none⟩)),defers:=[] }) (λl pre x W K hx hK=>by simpa using cg l pre x W K hx λa' ha=>ha▸hK) eO hpan eQ
def AtFn (f:FuncId)(F:Fence)(n:Nat)(P:Program)(c:Code)(Q:Exit->Act->World->Prop)(a:Act)(w:Wd):Prop :=
 ∀(b:Frame) (k:List Item) (cs:List Frame),b.fn=f->b.roundOf=F.round->F.fn b.fn->F.room (cs.length+1+n) ->
  ∃e a' w',Q e a' w'/\ArrivesIn (Machine.fenced P F) P (lone (b.atR a (.code c::k)) cs w) b k cs e a' w'
section
variable {f:FuncId}{F:Fence}{n:Nat}{P:Program}{Q:Exit->Act->World->Prop}{a:Act}{w:Wd}
theorem AtFn.of {c:Code}(h:c.wpIn F n P Q a w):AtFn f F n P c Q a w:=λb k cs _=>h b k cs
theorem AtFn.seq {x y:Code}(h:AtFn f F n P x (Exit.then (AtFn f F n P y Q) Q) a w):AtFn f F n P (.seq x y) Q a w:=by
 intro b k cs h1 h2 h3 h4;have s0:StepsIn (Machine.fenced P F) P (lone (b.atR a (.code (.seq x y)::k)) cs w) (lone (b.atR a (.code x:: .code y::k)) cs w):= .one (fenced_calm h3 h4 rfl) stepR_seq;obtain⟨e,dS,w₁,hq,r⟩:=h b (.code y::k) cs h1 h2 h3 h4;by_cases hn:e= .normal
 ·subst hn
  obtain⟨yf,qV,w₂,kV,IP⟩:=hq b k cs h1 h2 h3 h4;exact⟨yf,qV,w₂,kV,.of_steps (s0.trans r) IP⟩
 ·refine⟨e,dS,w₁,?_,.of_steps s0 (.pass (x:= .code y) rfl (λ_ _=> .inl hn) r)⟩
  cases e
  case normal=>exact absurd rfl hn
  all_goals exact hq
theorem AtFn.block {id:Nat}{c:Code}(h:AtFn f F n P c (λe a w=>match e with | .normal=>Q .normal a w | .exit i=>i=id/\Q .normal a w | .panic ch=>Q (.panic ch) a w|_=>False) a w):AtFn f F n P (.block id c) Q a w:=by
 intro b k cs h1 h2 h3 h4;have hc:=fenced_calm (P:=P) (w:=w) (fr:=b.atR a (.code (.block id c)::k)) h3 h4 rfl;obtain⟨e,dS,w₁,hq,r⟩:=h b (.inBlock id::k) cs h1 h2 h3 h4
 cases e with
 |normal=>exact⟨.normal,dS,w₁,hq,.head hc stepR_block (StepsIn.trans r (.one (fenced_calm h3 h4 rfl) stepR_inBlock))⟩
 |exit i =>
  obtain⟨rfl,hq⟩:=hq;exact⟨.normal,dS,w₁,hq,.head hc stepR_block (r.1 k (by simp[exitTo]))⟩
 |panic ch=>exact⟨.panic ch,dS,w₁,hq,.of_steps (.one hc stepR_block) (show ArrivesIn (Machine.fenced P F) P _ b k cs (.panic ch) dS w₁ from r)⟩
 |goto l=>exact hq.elim
 |ret=>exact hq.elim
 |outgrown=>exact hq.elim
def d5i (P:Program)(l:Nat)(Q:Exit->Act->World->Prop)(a':Act):Ending->World->Prop
 |.returned _,W=>∃W',(Instr.endLoop l).run P W= .ok none W'/\Q .normal a' W'
 |.panicked ch,W=>Q (.panic ch) a' W
 |.outgrown,_=>False
theorem AtFn.range {g:Operand}{ps:Array Tmp}{assign body:Code}{l:Nat}{mark:List Deferred}{w₁ w₁' w₂:Wd}{d:Deferred}{gf:FuncId}{args:Array Value}
 (he:(Instr.enterLoop f a.tmps ps assign body F.round).run P w= .ok (l,mark) w₁) (Dz:(resolve a.eval (rangeCall g l) 0).run P w₁= .ok d w₁') (DA:∀f',Target.leads P w₁' d.target d.args=some f'->F.fn f')
 (hinv:(invoke d.target d.args).run P w₁'= .ok (.enter gf args) w₂) (hn:F.depth.isSome=true->1<=n) (qX:CallsIn F (n-1) P gf args w₂ (d5i P l Q { a with defers:=mark++a.defers })) :
 AtFn f F n P (.rangeFunc g ps assign body) Q a w:=by
 intro b k cs h1 h2 h3 h4;subst h1;rw[<-h2]at he;have rX:(lone (b.atR a (.code (.rangeFunc g ps assign body)::k)) cs w).fenced P F:=by
  refine fenced_lone (.inl h3) (λf' sF=>DA f' ?_) (Fence.room_le h4 oM);have bC:=Frame.eval_atR b a (.code (.rangeFunc g ps assign body)::k);simp only[Frame.atR]at bC;simpa only[Frame.about,Frame.atR,he,bC,Dz]using sF
 have bP:=stepR_rangeFunc (P:=P) (b:=b) (a:=a) (k:=k) (cs:=cs) (w:=w) he Dz hinv;have fU:F.room ((b.atR { a with defers:=mark++a.defers } (.inRangeFunc l::k)::cs).length+1+(n-1)):=Fence.room_enter h4 hn;obtain⟨e,oL,fr,hR,hs,hfn,hl⟩:=qX.2 (b.atR { a with defers:=mark++a.defers } (.inRangeFunc l::k)::cs) fU
 cases e with
 |outgrown=>exact hR.elim
 |returned v =>
  have jC:=fenced_leaving (hfn▸qX.1) fU hl;obtain⟨yg,dC,hq⟩:=hR;refine⟨.normal,_,yg,hq,.head rX bP (StepsIn.trans hs (.head jC ?_ (.one (fenced_calm (fr:=b.atR { a with defers:=mark++a.defers } (.endRangeFunc l::k)) h3 h4 rfl) (stepR_endRangeFunc dC))))⟩;rw[<-finish_atR_inRangeFunc l v];exact step_leave_returned hl
 |panicked ch =>
  have jC:=fenced_leaving (hfn▸qX.1) fU hl;refine⟨.panic ch,_,oL,hR,.inRangeFunc l::k,.head rX bP (StepsIn.trans hs (.one jC ?_))⟩;rw[<-Frame.raise_atR];exact step_leave_panicked hl
theorem a9g {fn:Func}{c:Code}{args:Array Value}{R:Ending->World->Prop}(hf:P.funcs[f]? =some fn)(hb:fn.body=some c)(hF:F.fn f)(fU:F.round=none)
 (h:AtFn f F n P c (λe a w=>match e with | .normal=>LeavesInM F n P fn a.tmps R a.defers .returning w | .ret=>LeavesInM F n P fn a.tmps R a.defers .returning w | .panic ch=>LeavesInM F n P fn a.tmps R a.defers (.panicking ch) w|_=>False) { tmps:=args++Array.replicate (fn.ntmps-args.size) undef,defers:=[] } w):CallsIn F n P f args w R:=by
 refine⟨hF,λcs hr=> ?_⟩;obtain⟨b,kr⟩:∃b:Frame,b={ (default:Frame)with fn:=f,kind:= .normal,roundOf:=none }:=⟨_,rfl⟩;have aw:b.fn=f:=by rw[kr]
 have az:b.roundOf=none:=by rw[kr]
 have aV:b.kind= .normal:=by rw[kr]
 have bP:Frame.enter P f args .normal=b.atR { tmps:=args++Array.replicate (fn.ntmps-args.size) undef,defers:=[] } [.code c]:=by
  rw[kr];simp[Frame.enter,Frame.atR,hf,hb]
 obtain⟨e,a',w',hq,r⟩:=h b [] cs aw (az.trans fU.symm) (aw▸hF) hr;rw[<-bP]at r;have aJ:∀(u:FrameMode) (todo:List Item),LeavesInM F n P fn a'.tmps R a'.defers u w'->∃e cq fr,R e cq/\ComesIn (Machine.fenced P F) P (lone { b.atR a' todo with mode:=u } cs w') (lone fr cs cq) e/\fr.fn=f/\fr.leaving P cq e:=λu todo hL=>by
  obtain⟨e,cq,fr,h1,h2,h3,h4⟩:=leaves_stepsInM a'.defers u w' { b.atR a' todo with mode:=u } cs rfl rfl rfl (show P.funcs[b.fn]? =some fn by rw[aw];exact hf) aV (show F.fn b.fn from aw▸hF) hr hL;exact⟨e,cq,fr,h1,h2,h3.trans aw,h4⟩
 cases e with
 |normal =>
  obtain⟨e,cq,fr,h1,h2,h3⟩:=aJ .returning [] hq;exact⟨e,cq,fr,h1,ComesIn.of_steps (StepsIn.trans r (.one (fenced_calm (fr:=b.atR a' []) (aw▸hF) hr rfl) (stepR_end az))) h2,h3⟩
 |ret =>
  obtain⟨todo,hs⟩:=r.1 az;obtain⟨e,cq,fr,h1,h2,h3⟩:=aJ .returning todo hq;exact⟨e,cq,fr,h1,ComesIn.of_steps hs h2,h3⟩
 |panic ch =>
  obtain⟨todo,hs⟩:=r;obtain⟨e,cq,fr,h1,h2,h3⟩:=aJ (.panicking ch) todo hq;exact⟨e,cq,fr,h1,ComesIn.of_steps hs h2,h3⟩
 |exit i=>exact hq.elim
 |goto l=>exact hq.elim
 |outgrown=>exact hq.elim
end
theorem b7i {f:FuncId}{F:Fence}{n:Nat}{P:Program}{α:Type}{g:Operand}{ps:Array Tmp}{assign body:Code}{Q:Exit->Act->World->Prop}{a:Act}{w:Wd}
 (fU:F.round=none) (h1:1<=n) {gf:Nat} {lb:Array Value} (hg:a.eval g= .func (.func gf) #[] lb) (ou:F.fn gf) (eg:∀args w,(callFunc gf args).run P w= .ok (.enter gf args) w)
 {fm:α->Array Value} {C:World->Nat->Prop} (hC:∀(W:Wd) (l k:Nat) (o o':Obj),W.heap[l]? =some o->a7a o=true->a7a o'=true->(C (W.putObj l o') k↔C W k)) (iy:∀(W:Wd) (l:Nat) (o:Obj),W.heap[l]? =some o->a7a o=true->¬C W l)
 (jY:∀(W:Wd) (k:Nat) (o:Obj),C (W.alloc o) k->a7a o=true->C W k) (pN:∀k,C w k->k<w.heap.size)
 {n0:Nat} (fE:n0<=w.heap.size) {Kx:List α->α->World->Prop} (zZ:∀pre x (W:Wd) (l:Nat) (o o':Obj),W.heap[l]? =some o->a7a o=true->a7a o'=true->Kx pre x W->Kx pre x (W.putObj l o')) {S:List α->Prop} {N:Nat} {w0:Wd} (bN:e0u F (n-1) P gf lb fm C n0 Kx S N w0) (ed:Below w0.heap.size w0 w) (eT:∀x,(fm x).size=ps.size)
 (I:List α->World->Prop) (hI:∀pre A A' row,I pre A->A.grownBy A' row->(∀r,row=some r->w.heap.size<=r/\¬C A r)->I pre A') (hIC:∀pre A A' row k,I pre A->A.grownBy A' row->(∀r,row=some r->¬C A r)->C A' k->C A k) (h0:I [] w) (Ip:List PanicEntry->World->Prop) (nE:∃x,P.funcs[f]? =some x) (IQ:F.fn f) (tb:Td) (bx:α->Array Value) (zY:∀pre x (W:Wd) (o:Obj),Kx pre x W->Kx pre x (W.alloc o)) (lN:∀pre W k,I pre W->C W k->k<W.heap.size) (dS:α->Nat->Act)
 (cg:∀(l:Nat) (pre:List α) (x:α) (W:Wd) (K:Act->World->Prop),Kx pre x W->K (dS x W.heap.size) (W.alloc (.cells (bx x) tb))->assign.wpIn (F.inRound l) (n-1-1) P (Exit.then K (λ_ _ _=>False)) { tmps:=(ps.zip (fm x)).foldl (λt (p,v)=>t.setIfInBounds p v) a.tmps,defers:=[] } W)
 (eO:∀(l:Nat) (pre:List α) (x:α) (W:Wd) (B:Nat),I pre W->Kx pre x W->Blk W B (bx x) tb->w.heap.size<=B->(∀k,C W k->k≠B)->pre.length<N->body.wpIn (F.inRound l) (n-1-1) P (λe a' W'=>(e= .normal/\KeepP C n0 W W'/\I (pre++[x]) W')\/∃ch,e= .panic ch/\a'.defers=[]/\KeepP C n0 W W'/\Ip ch W') (dS x B) W)
 (hpan:∀(D:Nat) (ch:List PanicEntry) (W:Wd),w.heap.size<=D->Ip ch W->W.heap[D]? =some (.deferred (some []))->Q (.panic ch) { a with defers:={ target:= .collected D,args:= #[] }::a.defers } W)
 (eQ:∀(D:Nat) (xs:List α) (W:Wd),w.heap.size<=D->S xs->I xs W->W.heap[D]? =some (.deferred (some []))->Q .normal { a with defers:={ target:= .collected D,args:= #[] }::a.defers } W) :
 AtFn f F n P (.rangeFunc g ps assign body) Q a w:=by
 have hfn:=IQ;obtain⟨fn,IS⟩:∃fn,fn=f:=⟨_,rfl⟩;subst IS;obtain⟨D,hD⟩:=zE w.heap.size;let R:LoopState->Option Code->Loop:=λst pe=>{ state:=st,pending:=pe,fn,tmps:=a.tmps,params:=ps,assign,body,defers:=D }
 let W1:World:=(w.alloc (.deferred (some []))).alloc (.loop (R .ready none))
 have s1:W1.heap.size=D+2:=by simp[W1,hD]
 have g1:w.grownBy W1 none:=by
  exact ydu
 have l1:W1.heap[D+1]? =some (.loop (R .ready none)):=by
  exact yjc
 have d1:W1.heap[D]? =some (.deferred (some [])):=by
  exact yhr
 have IN:∀k,C W1 k->k<W1.heap.size:=λk hk=>by
  have:=pN k (jY _ k _ (jY _ k _ hk rfl) rfl);omega
 refine AtFn.range (l:=D+1) (mark:=[{ target:= .collected D,args:= #[] }]) (w₁:=W1) (w₁':=W1) (w₂:=W1) (d:={ target:= .fn (.func gf) lb,args:= #[.func (.yield (D+1)) #[] #[]] }) (gf:=gf) (args:= #[.func (.yield (D+1)) #[] #[]]++lb) ?_ ?_ ?_ ?_ (λ_=>h1) ?_
 ·rw[fU]
  subst hD;exact run_enterLoop_outer _ _ _ _ _
 ·simp only[resolve,hg]
  simp[go_sem]
 ·intro f' sF
  simp[Target.leads]at sF;subst sF;exact ou
 ·simp[invoke,go_sem,eg]
 ·have aw:Below w0.heap.size w0 W1:=ed.trans ((show Below w.heap.size w W1 from⟨g1.os,g1.tape,g1.output,g1.size,λk hk=>g1.block k hk vM⟩).mono ed.size)
  refine(bN (D+1) (λpre W=>I pre W/\W.heap[D+1]? =some (.loop (R .ready none))/\W.heap[D]? =some (.deferred (some []))) (λch W=>Ip ch W/\W.heap[D]? =some (.deferred (some []))) W1 aw ?_ (λs A A' row k hJ=>hIC s A A' row k hJ.1) IN ?_ ⟨hI [] w W1 none h0 g1 vM,l1,d1⟩).mono ?_
  ·exact ydf
  ·rintro pre x W⟨hi,hl,hd⟩ Fc hlen
   have ag:D+1<W.heap.size:=(Array.getElem?_eq_some_iff.1 hl).1;have hy:=run_yield (P:=P) (args:=fm x) hl (eT x);refine⟨fn,_,assign,body,hy,c0f hfn (λch w hR=>nE) (cg _ pre x W _ Fc ?_)⟩;exact yag
  ·rintro e W2 (⟨⟨v,rfl⟩,xs,hS,hi,hl,hd⟩|⟨ch,rfl,hp,hd⟩)
   rotate_left
   ·exact hpan D ch W2 oM hp hd
   have hr:=run_endLoop (P:=P) hl (by simp[R]);refine⟨_,hr,?_⟩;exact ygs
theorem a7z {f:FuncId}{F:Fence}{n:Nat}{P:Program}{α:Type}{g:Operand}(slot iE:Nat)(fj:α->Value){assign body:Code}{Q:Exit->Act->World->Prop}{a:Act}{w:Wd}
 (fU:F.round=none) (h1:1<=n) {gf:Nat} {lb:Array Value} (hg:a.eval g= .func (.func gf) #[] lb) (ou:F.fn gf) (eg:∀args w,(callFunc gf args).run P w= .ok (.enter gf args) w)
 {C:World->Nat->Prop} (hC:∀(W:Wd) (l k:Nat) (o o':Obj),W.heap[l]? =some o->a7a o=true->a7a o'=true->(C (W.putObj l o') k↔C W k)) (iy:∀(W:Wd) (l:Nat) (o:Obj),W.heap[l]? =some o->a7a o=true->¬C W l)
 (jY:∀(W:Wd) (k:Nat) (o:Obj),C (W.alloc o) k->a7a o=true->C W k) (pN:∀k,C w k->k<w.heap.size)
 {n0:Nat} (fE:n0<=w.heap.size) {Kx:List α->α->World->Prop} (zZ:∀pre x (W:Wd) (l:Nat) (o o':Obj),W.heap[l]? =some o->a7a o=true->a7a o'=true->Kx pre x W->Kx pre x (W.putObj l o')) {S:List α->Prop} {N:Nat} {w0:Wd} (bN:e0u F (n-1) P gf lb (λx=> #[fj x]) C n0 Kx S N w0) (ed:Below w0.heap.size w0 w)
 (I:List α->World->Prop) (hI:∀pre A A' row,I pre A->A.grownBy A' row->(∀r,row=some r->w.heap.size<=r/\¬C A r)->I pre A') (hIC:∀pre A A' row k,I pre A->A.grownBy A' row->(∀r,row=some r->¬C A r)->C A' k->C A k) (h0:I [] w) (Ip:List PanicEntry->World->Prop) (nE:∃x,P.funcs[f]? =some x) (IQ:F.fn f) (tb:Td) (bx:α->Array Value) (zY:∀pre x (W:Wd) (o:Obj),Kx pre x W->Kx pre x (W.alloc o)) (lN:∀pre W k,I pre W->C W k->k<W.heap.size)
 (cg:∀(l:Nat) (pre:List α) (x:α) (W:Wd) (K:Act->World->Prop),Kx pre x W->(∀a',a'={ tmps:=(a.tmps.setIfInBounds slot (fj x)).setIfInBounds iE (.pointer (some ⟨W.heap.size,0,none⟩)),defers:=[] }->K a' (W.alloc (.cells (bx x) tb)))->assign.wpIn (F.inRound l) (n-1-1) P (Exit.then K (λ_ _ _=>False)) { tmps:=a.tmps.setIfInBounds slot (fj x),defers:=[] } W)
 (eO:∀(l:Nat) (pre:List α) (x:α) (W:Wd) (B:Nat),I pre W->Kx pre x W->Blk W B (bx x) tb->w.heap.size<=B->(∀k,C W k->k≠B)->pre.length<N->body.wpIn (F.inRound l) (n-1-1) P (λe a' W'=>(e= .normal/\KeepP C n0 W W'/\I (pre++[x]) W')\/∃ch,e= .panic ch/\a'.defers=[]/\KeepP C n0 W W'/\Ip ch W') ({ tmps:=(a.tmps.setIfInBounds slot (fj x)).setIfInBounds iE (.pointer (some ⟨B,0,none⟩)),defers:=[] }:Act) W)
 (hpan:∀(D:Nat) (ch:List PanicEntry) (W:Wd),w.heap.size<=D->Ip ch W->W.heap[D]? =some (.deferred (some []))->Q (.panic ch) { a with defers:={ target:= .collected D,args:= #[] }::a.defers } W)
 (eQ:∀(D:Nat) (xs:List α) (W:Wd),w.heap.size<=D->S xs->I xs W->W.heap[D]? =some (.deferred (some []))->Q .normal { a with defers:={ target:= .collected D,args:= #[] }::a.defers } W) :
 AtFn f F n P (.rangeFunc g #[slot] assign body) Q a w :=
 b7i fU h1 hg ou eg hC iy jY pN fE zZ bN ed (λ_=>rfl) I hI hIC h0 Ip nE IQ tb bx zY lN (λx B=>{ tmps:=(a.tmps.setIfInBounds slot (fj x)).setIfInBounds iE (.pointer (some ⟨B,0,none⟩)),defers:=[] }) (λl pre x W K hx hK=>by simpa using cg l pre x W K hx λa' ha=>ha▸hK) eO hpan eQ
end
section
open Go Go.RowKit Go.Shelf Go.Lib
theorem d8v (w:Wd)(A:Array Value)(t:Td):∃W,w.alloc (.cells A t)=W/\Blk W w.heap.size A t/\Below w.heap.size w W/\W.heap.size=w.heap.size+1 :=
 ⟨_,rfl,Blk.new w A t,(zR _ _).alloc (yR _) _,by simp⟩
theorem d8w (w:Wd)(A B C:Array Value)(t u v:Td):∃W,((w.alloc (.cells A t)).alloc (.cells B u)).alloc (.cells C v)=W/\Blk W w.heap.size A t/\Blk W (w.heap.size+1) B u/\Blk W (w.heap.size+1+1) C v/\Below w.heap.size w W/\W.heap.size=w.heap.size+1+1+1:=by
 obtain⟨X,hX,a1,b1,e1⟩:=d8v w A t;obtain⟨Y,hY,a2,b2,e2⟩:=d8v X B u;obtain⟨Z,hZ,a3,b3,e3⟩:=d8v Y C v;have b4:=b2.trans (b3.mono b2.size);rw[hX,hY,hZ];rw[<-e1];refine⟨Z,rfl,a1.below b4 a1.lt,a2.below b3 a2.lt,?_,b1.trans (b4.mono b1.size),?_⟩
 ·rw[<-e2];exact a3
 ·rw[<-e2];exact e3
def pfS (s:Sh)(p:Pc):Bool×List Dt:=plF s p.x p.y p.id p.cls p.id
theorem d5j (i j:Int)(cls:Bw)(num:Int)(h:num<=999):(b9v i j cls num).length<=33:=by
 unfold b9v a1y;have h1:=a4o i j (a3q num.toNat) (a4g i j (a5e (plM cls)) 9) (a1f num.toNat).size;have h2:=a5o i j (a5e (plM cls)) 9;have h3:=a8z num.toNat oM;omega
theorem a8h (s:Sh)(p:Pc):(pfS s p).2.length<=33:=by
 unfold pfS plF;split
 ·rename_i h
  simp only[Bool.and_eq_true,decide_eq_true_eq]at h;exact Nat.le_trans (a4p _ _) (d5j _ _ _ _ h.1.2)
 ·simp
theorem a1u {W:Wd}{base:Nat}{e:Td}{s:Nat}{v:Vu}{n:Nat}{xs:List Value}(h:W.ownsRow base e s v n xs):Frm v n:=by
 exact ykl
theorem d1c (s:Sh)(id x y wt di num:Int)(cls name:Bw)(w:Wd)(f0:fits s.ax)(f1:fits s.ay)(hid:fits id)(fF:cls.size<=1000)(htab:Pow w) :
 Calls prog 23 #[shV s,.agg (plC id x y wt di cls name),.int .i64 num] w λe w'=>∃v,e= .returned (.tuple #[v,.bool (plF s x y id cls num).1])/\Lst dtE w'.heap.size w' v (plF s x y id cls num).2/\Frm v (plF s x y id cls num).2.length/\Below w.heap.size w w':=by
 obtain⟨⟨i,j,b⟩,cN⟩:∃p,ofS s x y=p:=⟨_,rfl⟩
 cases b with
 |false =>
  rw[d0h cN (.inl rfl)];refine(d4p s id x y wt di num i j cls name w f0 f1 cN).mono ?_;rintro e w'⟨rfl,hb⟩;exact⟨_,rfl,Lst.nil _ _ _,.inl rfl,hb⟩
 |true =>
  by_cases hr:num<1\/999<num
  ·rw[d0h cN (.inr hr)]
   refine(c2v s id x y wt di num i j cls name w f0 f1 cN hr).mono ?_;rintro e w'⟨rfl,hb⟩;exact⟨_,rfl,Lst.nil _ _ _,.inl rfl,hb⟩
  ·obtain⟨n,rfl⟩:∃n:Nat,num=n:=⟨num.toNat,oM⟩
   rw[d0i cN oM oM];unfold b9v;rw[Int.toNat_natCast];obtain⟨hm,dD⟩:=d7f cls;have hs:=a4l (b1v cN).1;have QC:∀W,Below w.heap.size w W->Calls prog 65 #[.int .i64 (n:Nat)] W λe W'=>e= .returned (.string (a7s n))/\Below W.heap.size W W':=λW hW=>by
    refine(Tryz.strconv_Itoa (n:Nat) oM oM W (htab.below hW)).mono ?_;rintro e W'⟨rfl,k,os,rfl⟩;refine⟨?_,?_⟩
    ·unfold a7s Lib.itoa
     rw[if_neg oM,Int.toNat_natCast]
    ·refine⟨rfl,rfl,rfl,?_,λq hq=> ?_⟩
     ·show W.heap.size<=(W.heap++os).size
      rw[Array.size_append];omega
     ·show(W.heap++os)[q]? =W.heap[q]?
      rw[Array.getElem?_append_left hq]
   have mf:∀W,Calls prog 64 #[.string (a7s n)] W λe W'=>e= .returned (.tuple #[.string (a1f n),.int .i64 0])/\Below W.heap.size W W':=λW=>c6r (a7s n) (b2s n) (by rw[a5h];have:=a3j 2 n oM;omega) W
   have bq:∀k (h:k<(a1f n).size) W,Calls prog 66 #[.int .u8 ((a1f n)[k]).toNat] W λe W'=>e= .returned (.agg #[.bool (a3q n k 0),.bool (a3q n k 1),.bool (a3q n k 2),.bool (a3q n k 3),.bool (a3q n k 4),.bool (a3q n k 5)])/\Below W.heap.size W W':=λk hk W=>by
    rw[a4w n k hk 0,a4w n k hk 1,a4w n k hk 2,a4w n k hk 3,a4w n k hk 4,a4w n k hk 5];exact e0g _ (b3g n k hk) W
   refine(d0g s id x y wt di n i j cls name (a7s n) (a1f n) (a3q n) (plM cls) w f0 f1 cN hid oM oM oM hm dD (by have:=a8z n oM;omega) QC mf bq (c2u i j id _ n)).mono ?_;have aQ:∀p,p∈(a6p i j id (a5e (plM cls)) (a3q n) (a1f n).size).map (·.1)↔p∈a1y i j (a5e (plM cls)) (a3q n) (a1f n).size:=λp=>by
    rw[b0b,a9a];simp
   have aO:=b0y i j (a5e (plM cls)) n oM;rintro e w'⟨hb,⟨h,v,base,rfl,-,ae⟩|⟨⟨p,hp,h⟩,rfl⟩⟩
   ·have ah:∀p∈a1y i j (a5e (plM cls)) (a3q n) (a1f n).size,onS s p.1 p.2=true:=λp hp=>h p ((aQ p).2 hp)
    rw[if_pos (List.all_eq_true.2 ah)];rw[b0b,<-b9u ah]at ae;exact⟨v,rfl,a0d a4t ae (by have:=a4p id (a1y i j (a5e (plM cls)) (a3q n) (a1f n).size);simp only;omega),a1u ae,hb⟩
   ·rw[if_neg (λhc=>by have:=List.all_eq_true.1 hc p ((aQ p).1 hp);rw[h]at this;cases this)]
    exact⟨_,rfl,Lst.nil _ _ _,.inl rfl,hb⟩
abbrev b3t (ev fv wv pv:Vu):Value:= .agg #[ev,fv,wv,pv]
abbrev e0v (s:Sh)(x:Pc×Value):Value:= .agg #[.int .i64 x.1.id,.int .i64 x.1.x,.int .i64 x.1.y,.string x.1.cls,.string x.1.nm,.int .i64 x.1.wt,.int .i64 x.1.ds,x.2,.bool (pfS s x.1).1]
def KxC (s:Sh)(ps:List Pc)(pre:List (Pc×Value))(x:Pc×Value)(W:Wd):Prop :=
 (∃rs,ps=pre.map Prod.fst++x.1::rs)/\Lst dtE W.heap.size W x.2 (pfS s x.1).2/\Frm x.2 (pfS s x.1).2.length
theorem KxC.put {s:Sh}{ps:List Pc}{pre:List (Pc×Value)}{x:Pc×Value}{W:Wd}{l:Nat}{o o':Obj}(hl:W.heap[l]? =some o)(ho:o.isCells=false)(lW:o'.isCells=false)(h:KxC s ps pre x W):KxC s ps pre x (W.putObj l o'):=by
 obtain⟨h1,⟨a,cap,e,c1,c2,c3⟩,h3⟩:=h;refine⟨h1,⟨a,cap,e,c1,c2,λj hj=> ?_⟩,h3⟩;obtain⟨b,off,rfl,hb,hc⟩:=c3 j hj;refine⟨b,off,rfl,by simpa using hb,λi hi=> ?_⟩;rw[<-hc i hi];unfold World.cell?;by_cases gV:b=l
 ·subst gV
  have h0:=hc i hi;unfold World.cell? at h0;simp only[hl]at h0
  cases o <;> simp_all [Obj.isCells]
 ·simp only[World.putObj_heap_other gV]
theorem a5d (s:Sh)(ev fv wv pv:Vu)(w:Wd) :
 Calls prog 35 #[b3t ev fv wv pv,shV s] w λe w'=>e= .returned (.func (.func 84) #[] #[.pointer (some ⟨w.heap.size,0,none⟩),.pointer (some ⟨w.heap.size+1,0,none⟩)])/\Blk w' w.heap.size #[ev,fv,wv,pv] 37/\Blk w' (w.heap.size+1) #[.int .i64 s.ax,.int .i64 s.ay,.int .i64 s.st,.int .i64 s.w,.int .i64 s.h,.int .i64 s.g] 28/\Below w.heap.size w w':=by
 obtain⟨ax,ay,st,sw,sh,sg⟩:=s;go_enter func35,ntmps35;have wF:∀(fn:Fn) (first cap:Array Value) (w:Wd),(Instr.makeFunc fn first cap).run prog w= .ok (.func fn first cap) w:=λ_ _ _ _=>rfl
 go_wp2_with fail;go_ret;have k2:=Blk.new (w.alloc (.cells #[ev,fv,wv,pv] 37)) #[.int .i64 ax,.int .i64 ay,.int .i64 st,.int .i64 sw,.int .i64 sh,.int .i64 sg] 28;rw[World.size_alloc]at k2;exact⟨rfl,(Blk.new _ _ _).alloc _,k2,zC⟩
theorem b5x {W W':Wd}{base:Nat}{e:Td}{s:Nat}{v:Vu}{n:Nat}{xs:List Value}(h:W.ownsRow base e s v n xs)(hs:∀g,v.ownBlock=some g->g<W.heap.size->W'.heap[g]? =W.heap[g]?):W'.ownsRow base e s v n xs:=by
 obtain⟨h1,h2|⟨g,cap,cur,rfl,h3,h4,h5⟩⟩:=h
 ·exact⟨h1,.inl h2⟩
 ·exact⟨h1,.inr ⟨g,cap,cur,rfl,h3,(hs g rfl (Array.getElem?_eq_some_iff.1 h4).1).trans h4,h5⟩⟩
theorem d7h {W:Wd}{base:Nat}{e:Td}{s:Nat}{v:Vu}{n:Nat}{xs:List Value}(h:W.ownsRow base e s v n xs){g:Nat}(hg:v.ownBlock=some g):base<=g/\g<W.heap.size:=by
 rcases h.2 with⟨rfl,-⟩|⟨g',cap,cur,rfl,h3,h4,-⟩
 ·cases hg
 ·cases hg
  exact⟨h3,(Array.getElem?_eq_some_iff.1 h4).1⟩
structure ICs (C:World->Nat->Prop)(n0:Nat)(w:Wd)(Bm Bs:Nat)(mc sc:Array Value)(base:Nat)(v:Vu)(ps:List Pc)(W:Wd):Prop where
 bm:Blk W Bm mc 37
 bs:Blk W Bs sc 28
 row:W.ownsRow base 66 7 v ps.length (ps.flatMap plE.enc)
 nm:¬C W Bm
 ns:¬C W Bs
 nr:∀g,v.ownBlock=some g->¬C W g
 bel:Below n0 w W
section
variable {C:World->Nat->Prop}{n0:Nat}{w:Wd}{Bm Bs:Nat}{mc sc:Array Value}{base:Nat}{v:Vu}{ps:List Pc}{A B:Wd}
theorem ICs.keep (h:ICs C n0 w Bm Bs mc sc base v ps A)(hk:KeepP C n0 A B):ICs C n0 w Bm Bs mc sc base v ps B:=by
 have hn:∀g,g<A.heap.size->¬C A g->¬C B g:=λg hg hc hb=>(hk.k.mine g hb).elim hc (λh=>by omega)
 exact⟨(hk.k.same _ h.bm.lt h.nm).trans h.bm,(hk.k.same _ h.bs.lt h.ns).trans h.bs,b5x h.row λg hg ag=>hk.k.same g ag (h.nr g hg),hn _ h.bm.lt h.nm,hn _ h.bs.lt h.ns,λg hg=>hn g (d7h h.row hg).2 (h.nr g hg),h.bel.trans hk.b⟩
theorem ICs.below (h:ICs C n0 w Bm Bs mc sc base v ps A)(hb:Below A.heap.size A B)(hC:∀k,C B k->C A k)(hn:n0<=A.heap.size):ICs C n0 w Bm Bs mc sc base v ps B :=
 ⟨h.bm.below hb h.bm.lt,h.bs.below hb h.bs.lt,b5x h.row λg hg ag=>hb.block g ag,λhc=>h.nm (hC _ hc),λhc=>h.ns (hC _ hc),λg hg hc=>h.nr g hg (hC _ hc),h.bel.trans (hb.mono hn)⟩
end
theorem b7j (n:Nat)(hn:1<=n)(s:Sh)(f0:fits s.ax)(f1:fits s.ay)(ev fv wv pv:Vu)(l:List Pc)(hl:l.length<=100)(a7:∀p∈l,PcOk p/\p.cls.size<=1000)(C:World->Nat->Prop)(n0:Nat)(w:Wd)(Bm Bs:Nat)
 (hm:Blk w Bm #[ev,fv,wv,pv] 37) (hs:Blk w Bs #[.int .i64 s.ax,.int .i64 s.ay,.int .i64 s.st,.int .i64 s.w,.int .i64 s.h,.int .i64 s.g] 28) (hL:Lst plE w.heap.size w pv l) (hF:Frm pv l.length) (fE:n0<=w.heap.size)
 (nW:∀W k,Below w.heap.size w W->C W k->k≠Bm/\k≠Bs) (hPow:∀W,Below n0 w W->Pow W) :
 e0u Fence.wide n prog 84 #[.pointer (some ⟨Bm,0,none⟩),.pointer (some ⟨Bs,0,none⟩)] (λx=> #[e0v s x]) C n0 (KxC s (a0q l)) (λxs=>xs.map Prod.fst=a0q l) 101 w:=by
 intro ly J Jp W hB hJ MD pN hY h0;have de:∀p∈a0q l,PcOk p/\p.cls.size<=1000:=λp hp=>a7 p ((a0v l).mem_iff.1 hp)
 have fp:(a0q l).length=l.length:=(a0v l).length_eq;obtain⟨ps,eT⟩:=zE (a0q l);have yh:=hL.up hB;have hO:=a8g ev fv wv pv l W yh hF hl;rw[eT]at hO de fp hY ⊢;have FU:=hm.below hB hm.lt;have IT:=hs.below hB hs.lt;have ME:¬C W Bm:=λhc=>(nW W Bm hB hc).1 rfl
 have MF:¬C W Bs:=λhc=>(nW W Bs hB hc).2 rfl
 have gK:Below n0 w W:=hB.mono fE;have UA:=hB.size;clear hL yh hm hs nW hF eT;obtain⟨c0,c1,c2,c3⟩:=zN4 FU;refine callsIn_wide.2 ?_;go_enter func84,ntmps84;go_upto_block 0 with(first
  |(go_at_call 44;refine hO.mono ?_;rintro e W1⟨v,rfl,cK,aw⟩;rw[<-fp]at cK;obtain⟨va,vc,rfl,MG⟩:=(a0d a4f cK oM).form))
 have IU:=aw.size;have qY:∀k,C W1 k->C W k:=λk=>MD [] W W1 none k h0 (a2q none aw) vM
 have nt:ICs C n0 w Bm Bs _ _ W.heap.size (.slice va ps.length vc) ps W1:=⟨FU.below aw FU.lt,IT.below aw IT.lt,cK,λhc=>ME (qY _ hc),λhc=>MF (qY _ hc),λg hg hc=>by have:=pN _ (qY _ hc);have:=(d7h cK hg).1;omega,gK.trans (aw.mono oM)⟩;have MH:J [] W1:=hJ [] W W1 none h0 (a2q none aw) vM;clear hO cK qY FU IT ME MF gK c0 c1 c2 c3 h0 pN aw;go_wp2_with fail;go_loopw [11] (λkk wr=>∃(k:Nat) (pre:List (Pc×Value)),k<=ps.length/\kk= .int .i64 (k:Nat)/\pre.map Prod.fst=ps.take k/\J pre wr/\ICs C n0 w Bm Bs #[ev,fv,wv,pv] #[.int .i64 s.ax,.int .i64 s.ay,.int .i64 s.st,.int .i64 s.w,.int .i64 s.h,.int .i64 s.g] W.heap.size (.slice va ps.length vc) ps wr/\W.heap.size<=wr.heap.size) (λkk _=>ps.length-(intOf kk).toNat)
 case atStart=>exact⟨0,[],Nat.zero_le _,rfl,by simp,MH,nt,IU⟩
 case round =>
  clear MH nt;obtain⟨k,pre,hk,rfl,tZ,FV,hI,mv⟩:=hrel;by_cases ag:k<ps.length
  ·have aA:(k:Int)<(ps.length:Int):=oM
   have eB:=a0d a4f hI.row oM;obtain⟨b,off,cap,hv,-,gV,hc⟩:=eB.some_ oM;simp only[Value.slice.injEq,true_and]at hv;obtain⟨rfl,rfl⟩:=hv;obtain⟨p,hp⟩:=zE (ps[k]);have aB:=hc k ag;rw[hp]at aB;obtain⟨dY,ie⟩:=de p (hp▸List.getElem_mem ag);have yj:ps=pre.map Prod.fst++p::ps.drop (k+1):=by
    rw[tZ,<-hp,<-List.drop_eq_getElem_cons ag,List.take_append_drop]
   have MI:pre.length=k:=by
    have:=congrArg List.length tZ;rw[List.length_map,List.length_take]at this;omega
   have aq:(pre++[(p,(.slice none 0 0:Vu))]).map Prod.fst=ps.take (k+1):=by
    rw[List.map_append,tZ,List.take_add_one,List.getElem?_eq_getElem ag,hp];rfl
   have d0:wr.cell? ⟨b,off+k*7,none⟩=some (.int .i64 p.id):=aB 0 (show 0<7 by decide);have d1:wr.cell? ⟨b,off+k*7+1,none⟩=some (.int .i64 p.x):=aB 1 (show 1<7 by decide);have d2:wr.cell? ⟨b,off+k*7+2,none⟩=some (.int .i64 p.y):=aB 2 (show 2<7 by decide);have d3:wr.cell? ⟨b,off+k*7+3,none⟩=some (.string p.cls):=aB 3 (show 3<7 by decide);have d4:wr.cell? ⟨b,off+k*7+4,none⟩=some (.string p.nm):=aB 4 (show 4<7 by decide);have d5:wr.cell? ⟨b,off+k*7+5,none⟩=some (.int .i64 p.wt):=aB 5 (show 5<7 by decide);have d6:wr.cell? ⟨b,off+k*7+6,none⟩=some (.int .i64 p.ds):=aB 6 (show 6<7 by decide);obtain⟨s0,s1,s2,s3,s4,s5⟩:=zN6 hI.bs;obtain⟨id,x,y,cls,nm,wt,ds⟩:=p;have fR:=d1c s id x y wt ds id cls nm;obtain⟨r,hr⟩:=zE (plF s x y id cls id);have gS:pfS s ⟨id,x,y,cls,nm,wt,ds⟩=r:=hr;simp only[hr]at fR;obtain⟨on,dl⟩:=r;simp only at fR d0 d1 d2 d3 d4 d5 d6;have DB:=dY.id;simp only at DB ie;have eR:∀W',Below n0 wr W'->Pow W':=λW' h=>hPow W' (hI.bel.trans h)
   clear hc aB eB hp hr dY;go_upto_region 4 with(first
    |(go_at_call 23;(with_reducible refine(fR _ f0 f1 DB ie (eR _ (((zR _ _).alloc (yR _) _).mono oM))).mono ?_);rintro e W4⟨vd,rfl,pV,DC,eC⟩))
   have mi:=eC.size;rw[World.size_alloc]at mi;have aZ:Below wr.heap.size wr W4:=((zR _ _).alloc (yR _) _).trans (eC.mono (by rw[World.size_alloc];omega));have kp:Blk W4 wr.heap.size #[.int .i64 id,.int .i64 x,.int .i64 y,.string cls,.string nm,.int .i64 wt,.int .i64 ds] 66:=(Blk.new wr _ _).below eC (by rw[World.size_alloc];omega);have vz:wr.grownBy W4 none:=a2q none aZ;have Fj:J pre W4:=hJ pre wr W4 none FV vz vM;have pD:=hI.below aZ (λk=>MD pre wr W4 none k FV vz vM) oM;have MJ:KxC s ps pre (⟨id,x,y,cls,nm,wt,ds⟩,vd) W4:=by
    refine⟨⟨_,yj⟩,?_,?_⟩
    ·show Lst dtE W4.heap.size W4 vd (pfS s ⟨id,x,y,cls,nm,wt,ds⟩).2
     rw[gS];exact pV
    ·show Frm vd (pfS s ⟨id,x,y,cls,nm,wt,ds⟩).2.length
     rw[gS];exact DC
   obtain⟨fn,tmps,assign,body,hy,QD⟩:=hY pre (⟨id,x,y,cls,nm,wt,ds⟩,vd) W4 Fj MJ oM;simp only[e0v,gS]at hy;obtain⟨a4,n4,c4,rfl,-⟩:∃a n c,vd= .slice a n c/\n=dl.length:=by
    obtain⟨a,c,h,-⟩:=pV.form;exact⟨a,_,c,h,rfl⟩
   obtain⟨p0,p1,p2,p3,p4,p5,p6⟩:=zN7 kp;clear fR eC kp MJ pV DC Fj hI FV vz;refine(wpIn_wide (n:=n)).1 ?_;gi_wp2;refine QD.mono ?_;rintro e W5 (⟨rfl,hJ5,IV⟩|⟨ch,rfl,hp⟩)
   ·gi_wp2
    go_wp2_with fail;go_roundw
    case rel =>
     have:=IV.k.size;exact⟨k+1,pre++[(⟨id,x,y,cls,nm,wt,ds⟩,.slice a4 n4 c4)],oM,by go_num,by rw[List.map_append]at aq ⊢;exact aq,hJ5,pD.keep IV,oM⟩
    case measure=>simp[intOf];omega
   ·gi_wp2
    exact⟨rfl,.inr ⟨ch,rfl,hp⟩⟩
  ·obtain rfl:k=ps.length:=oM
   have aY:¬(ps.length:Int)<(ps.length:Int):=oM;go_wp2_with fail;go_end0;exact .inl ⟨⟨_,rfl⟩,pre,by rw[tZ,List.take_length],FV⟩
section
variable {P:Program}{α:Type}{E:El α}{st:Td}{F:Fence}{n:Nat}
theorem b7k (w:Wd)(t ty e:Td)(i:TypeInfo)(ht:P.underlying t=some (.slice e))(hi:P.info? e=some i):(Builtin.append_ #[t,t] ty #[.slice none 0 0,.slice none 0 0]).run P w= .ok (.slice none 0 0) w:=by
 have hn:(Builtin.firstCells i.size 0 (.slice none 0 0)).run P w= .ok #[] w:=run_firstCells_none _ _ _ _ _;simp[Builtin.append_,run_underlying ht,sizeOf,typeInfo,hi,Builtin.lenOf,hn]
theorem El.append_all (hE:E.Ok)(hI:E.In P st)(W:Wd)(base:Nat)(v xv:Vu)(l l2:List α)(ty:Td)(hv:W.ownsRow base E.t E.s v l.length (l.flatMap E.enc)){n0:Nat}(hx:Lst E n0 W xv l2)(hf:Frm xv l2.length)(hl:l.length+l2.length<=100000)(hb:base<=W.heap.size) :
 ∃v' W',(Builtin.append_ #[st,st] ty #[v,xv]).run P W= .ok v' W'/\W'.ownsRow base E.t E.s v' (l++l2).length ((l++l2).flatMap E.enc)/\W.grownBy W' v.ownBlock/\Below base W W'/\(v'.ownBlock=v.ownBlock\/v'.ownBlock=some W.heap.size):=by
 obtain⟨i0,z,aT,bM,aW,bF,lZ⟩:=hI.info;rcases hf with rfl|⟨b,off,cap,rfl⟩
 ·obtain rfl:l2=[]:=by
   obtain⟨a,c,h,-⟩:=hx.form;simp only[Value.slice.injEq]at h;exact List.eq_nil_of_length_eq_zero h.2.1.symm
  by_cases hn:v= .slice none 0 0
  ·subst hn
   exact⟨_,W,b7k W st ty E.t i0 hI.under aT,by rw[List.append_nil];exact hv,⟨rfl,rfl,rfl,yR _,λ_ _ _=>rfl⟩,⟨rfl,rfl,rfl,yR _,λ_ _=>rfl⟩,.inl rfl⟩
  ·have bR:∃g c,v= .slice (some ⟨g,0,none⟩) l.length c:=by
    rcases hv.2 with⟨e,-⟩|⟨g,c,cur,e,-⟩
    ·exact absurd e hn
    ·exact⟨g,c,e⟩
   obtain⟨v',W',hr,h2,h3,h4,-⟩:=El.append_join hE hI W base v (.slice none 0 0) l [] ty hv bR hx (.inl rfl) hl hb;obtain⟨g,c,rfl⟩:=bR;have hs:Src P i0.size st (.slice none 0 0) 0 [] W:=Src.ofNil W hI.under 0;have eU:l.length+0<=c:=by
    exact yev
   have bB:=run_append_room_src (P:=P) W st st ty E.t i0 hI.under aT g 0 l.length c (.slice none 0 0) 0 [] hs eU vM vM;rw[hr]at bB;simp only[Result.ok.injEq]at bB;exact⟨v',W',hr,h2,h3,h4,.inl (by rw[bB.1];rfl)⟩
 ·have cC:∀j u,(l2.flatMap E.enc)[j]? =some u->W.cell? ((⟨b,off,none⟩:Addr).add j)=some u:=λj u hj=>by
   exact yji
  obtain⟨v',W',hr,aj,hg,-,h5⟩:=run_append_own_at (P:=P) W base st ty E.t i0 _ E.s i0.bytes hI.under aT bM aW rfl lZ hE.pos _ l.length _ hv ⟨b,off,none⟩ l2.length cap (l2.flatMap E.enc) (a0w hE l2) cC (a4q hE l2) oK (Nat.le_trans (Nat.mul_le_mul (show l.length+l2.length<=100000 by omega) bF) jM) hb;refine⟨v',W',hr,?_,hg,a1l hg hb (λk e=>(hv.lt k e).1),h5⟩;exact yju
theorem El.allIn (hE:E.Ok)(hI:E.In P st){ops:Array Oper}{rest:List Oper}{o:Oper}{a:Act}{w:Wd}{Q:Exit->Act->World->Prop}(dI:o.guard=none)(s x:Operand)
 (ho:o.op= .call { callee:= .builtin .append,args:= #[s,x],argTypes:= #[st,st] }) (base:Nat) {v:Vu} (hs:a.eval s=v) (l:List α) (hv:w.ownsRow base E.t E.s v l.length (l.flatMap E.enc)) {xv:Vu} (l2:List α) (dH:a.eval x=xv) {n0:Nat} (hx:Lst E n0 w xv l2) (hf:Frm xv l2.length) (hl:l.length+l2.length<=100000) (hb:base<=w.heap.size)
 (bL:∀f,o.about P w a.eval=some f->F.fn f)
 (h:∀v' w',w'.ownsRow base E.t E.s v' (l++l2).length ((l++l2).flatMap E.enc)->w.grownBy w' v.ownBlock->Below base w w'->(v'.ownBlock=v.ownBlock\/v'.ownBlock=some w.heap.size)->wpListIn F n P ops Q rest (a.put o.dst v') w') :
 wpListIn F n P ops Q (o::rest) a w:=by
 obtain⟨v',w',hr,h2,h3,h4,h5⟩:=El.append_all hE hI w base v xv l l2 o.type hv hx hf hl hb;refine wpListIn_plain dI λK hK=> ?_
 unfold Oper.wpIn;refine⟨bL,?_⟩;unfold Oper.semAt execOp
 cases fU:F.round <;>
 ·simp only[ho,resolve,invoke,builtin,Sem.run_bind,Sem.run_pure,Result.andThen_ok,List.map_toArray,List.map_cons,List.map_nil,hs,dH,hr]
  exact hK _ _ (h v' w' h2 h3 h4 h5)
end
theorem d5k {s:Sh}(hs:OkS s){d:Dt}(h:onS s d.x d.y=true):Sm d:=by
 obtain⟨⟨h0,h1⟩,h2,h3⟩:=a5y.1 h;exact⟨oM,by have:=hs.w1;omega,oM,by have:=hs.h1;omega⟩
theorem c7n (s:Sh)(p:Pc):∀d∈(pfS s p).2,onS s d.x d.y=true:=by
 unfold pfS plF;split
 ·rename_i h
  simp only[Bool.and_eq_true,List.all_eq_true]at h;exact b6u h.2
 ·intro d hd
  simp at hd
theorem e0w (s:Sh)(ks:List (Int×List a0l)):∀d∈a1k 2 (a4b s [] ks),onS s d.x d.y=true:=by
 intro d hd;rw[a7h]at hd;exact b2z s _ [] vM _ (b0a hd)
theorem c5y {g:Int}{l o:List Dt}(hl:∀d∈l,Sm d)(ho:∀d∈o,Sm d):c5i g l o=a5i g l o:=by
 unfold c5i a5i;have:∀a∈l,o.any (a7t g a)=o.any (a8v g a):=λa ha=>by
  rw[Bool.eq_iff_iff,List.any_eq_true,List.any_eq_true];exact⟨λ⟨b,hb,h⟩=>⟨b,hb,by rw[<-b6q (hl a ha) (ho b hb)];exact h⟩,λ⟨b,hb,h⟩=>⟨b,hb,by rw[b6q (hl a ha) (ho b hb)];exact h⟩⟩
 clear hl ho;induction l with
 |nil=>rfl
 |cons x l ih =>
  rw[List.find?_cons,List.find?_cons,this x (List.mem_cons_self ..),ih λa ha=>this a (List.mem_cons_of_mem _ ha)]
theorem b7l {α:Type}{E:El α}(hE:E.Ok)(w:Wd)(x:α):Lst E (w.heap.size+1) (w.alloc (.cells (E.enc x).toArray E.t)) (.slice (some ⟨w.heap.size,0,none⟩) 1 1) [x]:=by
 refine⟨_,1,rfl,yR _,by simp,λj hj=> ?_⟩;obtain rfl:j=0:=by simpa using hj
 refine⟨w.heap.size,0,rfl,Nat.lt_succ_self _,λi hi=> ?_⟩;have hk:=Blk.new w (E.enc x).toArray E.t;have:=hk.cell i;rw[show(0:Nat)+0*E.s+i=i by omega,this];simp
def a3t (B:Nat)(W:Wd)(k:Nat):Prop:=(∃o,W.heap[k]? =some o/\o.isCells=true)/\(k=B\/∃i,i<3/\∃off len cap,W.cell? ⟨B,i,none⟩=some (.slice (some ⟨k,off,none⟩) len cap))
theorem b7m {B:Nat}{W:Wd}{k:Nat}(h:a3t B W k):k<W.heap.size:=by
 exact yik
theorem b1z (B:Nat)(W:Wd)(l:Nat)(o:Obj)(h:W.heap[l]? =some o)(ho:o.isCells=false):¬a3t B W l:=by
 exact yig
theorem a3u {W:Wd}{b i:Nat}{o:Obj}(h:W.heap[b]? =some o)(ho:o.isCells=false):W.cell? ⟨b,i,none⟩=none:=by
 unfold World.cell?;simp only[h]
 cases o <;> simp_all [Obj.isCells]
theorem a5s {W W':Wd}{b i:Nat}(h:W'.heap[b]? =W.heap[b]?):W'.cell? ⟨b,i,none⟩=W.cell? ⟨b,i,none⟩:=by
 unfold World.cell?;simp only[h]
theorem d1d (B:Nat)(W:Wd)(l k:Nat)(o o':Obj)(h:W.heap[l]? =some o)(ho:o.isCells=false)(lW:o'.isCells=false):a3t B (W.putObj l o') k↔a3t B W k:=by
 have ag:l<W.heap.size:=(Array.getElem?_eq_some_iff.1 h).1;have pC:(W.putObj l o').heap[l]? =some o':=World.putObj_heap_same ag;by_cases hk:k=l
 ·subst hk
  exact⟨λhc=>absurd hc (b1z B _ k o' pC lW),λhc=>absurd hc (b1z B W k o h ho)⟩
 ·have e1:(W.putObj l o').heap[k]? =W.heap[k]? :=World.putObj_heap_other hk
  have e2:∀i,(W.putObj l o').cell? ⟨B,i,none⟩=W.cell? ⟨B,i,none⟩:=λi=>by
   by_cases hb:B=l
   ·subst hb
    rw[a3u pC lW,a3u h ho]
   ·exact a5s (World.putObj_heap_other hb)
  unfold a3t;simp only[e1,e2]
theorem c3m (B:Nat)(W:Wd)(k:Nat)(o:Obj)(h:a3t B (W.alloc o) k)(ho:o.isCells=false):a3t B W k:=by
 have cP:(W.alloc o).heap[W.heap.size]? =some o:=World.alloc_heap_new W o;have hk:k≠W.heap.size:=λe=>b1z B _ k o (by rw[e];exact cP) ho h
 have ag:=b7m h;rw[World.size_alloc]at ag;have e1:(W.alloc o).heap[k]? =W.heap[k]? :=Below.heap_alloc W o k oM;obtain⟨⟨o',h1,h2⟩,h3⟩:=h;refine⟨⟨o',e1.symm.trans h1,h2⟩,h3.imp id ?_⟩;rintro⟨i,hi,off,len,cap,hc⟩;have hb:B<(W.alloc o).heap.size:=World.block_lt_of_cell? _ _ hc;rw[World.size_alloc]at hb;by_cases IW:B=W.heap.size
 ·rw[IW,a3u cP ho]at hc
  cases hc
 ·exact⟨i,hi,off,len,cap,by rw[<-a5s (Below.heap_alloc W o B oM)];exact hc⟩
theorem KeepP.trans {C:World->Nat->Prop}{n0:Nat}{a b c:Wd}(h:KeepP C n0 a b)(k:KeepP C n0 b c):KeepP C n0 a c :=
 ⟨⟨Nat.le_trans h.k.size k.k.size,λi hi hn=>(k.k.same i (Nat.lt_of_lt_of_le hi h.k.size) λhc=>(h.k.mine i hc).elim hn λe=>by omega).trans (h.k.same i hi hn),λi hi=>(k.k.mine i hi).elim (λhc=>h.k.mine i hc) λe=> .inr (Nat.le_trans h.k.size e)⟩,h.b.trans k.b⟩
abbrev a1t (dv kv lv:Vu):Value:= .agg #[dv,kv,lv]
structure PIr (n0:Nat)(w:Wd)(Bp:Nat)(L:List (Nat×Array Value×TypeId))(dv kv lv:Vu)(pl:Pn)(W:Wd):Prop where
 p:Blk W Bp #[dv,kv,lv] 45
 d:W.ownsRow n0 54 4 dv pl.dots.length (pl.dots.flatMap dtE.enc)
 k:W.ownsRow n0 82 3 kv pl.keys.length (pl.keys.flatMap keE.enc)
 l:W.ownsRow n0 68 3 lv pl.left.length (pl.left.flatMap lfE.enc)
 o:∀q∈L,Blk W q.1 q.2.1 q.2.2
 ne:∀q∈L,q.1≠Bp/\q.2.2≠54/\q.2.2≠82/\q.2.2≠68
 bp:n0<=Bp
 bel:Below n0 w W
 nw:n0<=w.heap.size
theorem PIr.hz {n0:Nat}{w:Wd}{Bp:Nat}{L:List (Nat×Array Value×TypeId)}{dv kv lv:Vu}{pl:Pn}{W:Wd}(h:PIr n0 w Bp L dv kv lv pl W):n0<=W.heap.size:=Nat.le_trans h.nw h.bel.size
section
variable {n0 Bp:Nat}{w W W':Wd}{L:List (Nat×Array Value×TypeId)}{dv kv lv:Vu}{pl:Pn}
theorem PIr.row_c (h:PIr n0 w Bp L dv kv lv pl W){k:Nat}(hk:dv.ownBlock=some k\/kv.ownBlock=some k\/lv.ownBlock=some k):a3t Bp W k:=by
 have hr:∀ {v:Vu} {e:Td} {s n:Nat} {xs:List Value} {i:Nat},W.ownsRow n0 e s v n xs->#[dv,kv,lv][i]? =some v->i<3->v.ownBlock=some k->a3t Bp W k:=λ{v e s n xs i} hw hi ag hv=>by
  rcases hw.2 with⟨rfl,-⟩|⟨g,cap,cur,rfl,-,hg,-⟩
  ·cases hv
  ·cases hv
   exact⟨⟨_,hg,rfl⟩,.inr ⟨i,ag,0,_,cap,(h.p.cell i).trans hi⟩⟩
 rcases hk with hk|hk|hk
 ·exact hr h.d (i:=0) rfl oM hk
 ·exact hr h.k (i:=1) rfl oM hk
 ·exact hr h.l (i:=2) rfl oM hk
theorem PIr.box_c (h:PIr n0 w Bp L dv kv lv pl W):a3t Bp W Bp:=⟨⟨_,h.p,rfl⟩,.inl rfl⟩
theorem PIr.c_row (h:PIr n0 w Bp L dv kv lv pl W)(hp:Blk W' Bp #[dv,kv,lv] 45){k:Nat}(hc:a3t Bp W' k):k=Bp\/dv.ownBlock=some k\/kv.ownBlock=some k\/lv.ownBlock=some k:=by
 have hz:∀ {v:Vu} {e:Td} {s n:Nat} {xs:List Value},W.ownsRow n0 e s v n xs->∀ {off len cap:Nat},v= .slice (some ⟨k,off,none⟩) len cap->v.ownBlock=some k:=λ{v e s n xs} hw {off len cap} hv=>by
  rcases hw.2 with⟨rfl,-⟩|⟨g,aI,cur,rfl,-⟩
  ·cases hv
  ·simp only[Value.slice.injEq,Option.some.injEq,Addr.mk.injEq]at hv
   rw[<-hv.1.1];rfl
 obtain⟨-,rfl|⟨i,hi,off,len,cap,ao⟩⟩:=hc
 ·exact .inl rfl
 ·rw[hp.cell i]at ao
  match i,hi with
  |0,_=>exact .inr (.inl (hz h.d (by simpa using ao)))
  |1,_=>exact .inr (.inr (.inl (hz h.k (by simpa using ao))))
  |2,_=>exact .inr (.inr (.inr (hz h.l (by simpa using ao))))
theorem PIr.keep_row (h:PIr n0 w Bp L dv kv lv pl W){row:Option Nat}(hg:W.grownBy W' row)(hr:∀r,row=some r->n0<=r/\r≠Bp/\dv.ownBlock≠some r/\kv.ownBlock≠some r/\lv.ownBlock≠some r)(ho:∀q∈L,some q.1≠row):PIr n0 w Bp L dv kv lv pl W':=by
 have hk:∀ {v:Vu} {e:Td} {s n:Nat} {xs:List Value},W.ownsRow n0 e s v n xs->(∀r,row=some r->v.ownBlock≠some r)->W'.ownsRow n0 e s v n xs:=λ{v e s n xs} hw hv=>hw.kept hg (by
  cases hb:v.ownBlock with
  |none=>exact .inl rfl
  |some b=>exact .inr λe=>hv b e.symm hb)
 exact⟨h.p.kept hg (λe=>(hr Bp e).2.1 rfl),hk h.d λr e=>(hr r e).2.2.1,hk h.k λr e=>(hr r e).2.2.2.1,hk h.l λr e=>(hr r e).2.2.2.2,λq hq=>(h.o q hq).kept hg (λe=>ho q hq e.symm),h.ne,h.bp,h.bel.grown hg h.hz (λr e=>(hr r e).1),h.nw⟩
theorem PIr.below (h:PIr n0 w Bp L dv kv lv pl W)(hb:Below W.heap.size W W'):PIr n0 w Bp L dv kv lv pl W':=h.keep_row (a2q none hb) (λr e=>by cases e) (λq _ e=>by cases e)
theorem PIr.keepP (h:PIr n0 w Bp L dv kv lv pl W)(hb:Below W.heap.size W W'):KeepP (a3t Bp) n0 W W':=by
 have h':=h.below hb;have hk:∀ {v:Vu} {e:Td} {s n:Nat} {xs:List Value} {k:Nat},W.ownsRow n0 e s v n xs->v.ownBlock=some k->∃o,W.heap[k]? =some o/\o.isCells=true:=λ{v e s n xs k} hw hv=>by
  rcases hw.2 with⟨rfl,-⟩|⟨g,cap,cur,rfl,-,hg,-⟩
  ·cases hv
  ·cases hv
   exact⟨_,hg,rfl⟩
 refine⟨⟨hb.size,λk hk _=>hb.block k hk,λk hc=> .inl ?_⟩,hb.mono h.hz⟩;rcases h.c_row h'.p hc with rfl|hk
 ·exact h.box_c
 ·exact h.row_c hk
theorem PIr.add_dots (h:PIr n0 w Bp L dv kv lv pl W){v':Vu}{l2:List Dt}(hg:W.grownBy W' dv.ownBlock)(hr:W'.ownsRow n0 54 4 v' (pl.dots++l2).length ((pl.dots++l2).flatMap dtE.enc))(hv:v'.ownBlock=dv.ownBlock\/∃b,v'.ownBlock=some b/\W.heap.size<=b) :
 Blk W' Bp #[dv,kv,lv] 45/\PIr n0 w Bp L v' kv lv { pl with dots:=pl.dots++l2 } (W'.setCell ⟨Bp,0,none⟩ v')/\KeepP (a3t Bp) n0 W (W'.setCell ⟨Bp,0,none⟩ v'):=by
 have jr:∀r,dv.ownBlock=some r->n0<=r/\r<W.heap.size:=λr e=>h.d.lt r e
 have kp:Blk W' Bp #[dv,kv,lv] 45:=h.p.kept hg (λe=>a0n h.d h.p jM e);have cf:=a0g W' Bp 0 v';have jD:∀r,dv.ownBlock=some r->∃cur,W.heap[r]? =some (.cells cur 54 (0,0)):=λr e=>by
  rcases h.d.2 with⟨rfl,-⟩|⟨g,cap,cur,rfl,-,ub,-⟩
  ·cases e
  ·cases e
   exact⟨cur,ub⟩
 have yl:W'.ownsRow n0 82 3 kv pl.keys.length (pl.keys.flatMap keE.enc):=a0s h.k hg λr e=>by
  exact yci
 have ym:W'.ownsRow n0 68 3 lv pl.left.length (pl.left.flatMap lfE.enc):=a0s h.l hg λr e=>by
  exact yci
 have bu:Bp<W'.heap.size:=kp.lt;have bx:∀r,some Bp=some r->∃o:Obj,W'.heap[r]? =some o/\∀(cur:Array Value) (e:Td),e≠45->o≠.cells cur e (0,0):=λr e=>by
  exact ygc
 have tn:∀ {v:Vu} {e:Td} {s n:Nat} {xs:List Value},W'.ownsRow n0 e s v n xs->e≠45->(W'.setCell ⟨Bp,0,none⟩ v').ownsRow n0 e s v n xs:=λ{v e s n xs} hw he=>a0s hw cf λr er=>by
  exact yiv
 have hP:PIr n0 w Bp L v' kv lv { pl with dots:=pl.dots++l2 } (W'.setCell ⟨Bp,0,none⟩ v'):=by
  refine⟨kp.set 0 v',tn hr jM,tn yl jM,tn ym jM,λq hq=> ?_,h.ne,h.bp,?_,h.nw⟩
  ·have h1:=h.ne q hq
   refine((h.o q hq).kept hg (λe=> ?_)).kept cf (λe=> ?_)
   ·obtain⟨cur,hc⟩:=jD _ e
    have h2:=h.o q hq;unfold Blk at h2;rw[hc]at h2;simp only[Option.some.injEq,Obj.cells.injEq]at h2;exact absurd h2.2.1.symm h1.2.1
   ·cases e
    exact h1.1 rfl
  ·exact yfk
 refine⟨kp,hP,⟨⟨Nat.le_trans hg.size cf.size,λk hk hn=> ?_,λk hc=> ?_⟩,?_⟩⟩
 ·exact(cf.block k (Nat.lt_of_lt_of_le hk hg.size) λe=>hn (by cases e;exact h.box_c)).trans (hg.block k hk λe=>hn (h.row_c (.inl e.symm)))
 ·rcases hP.c_row hP.p hc with rfl|hk
  ·exact .inl h.box_c
  ·have hold:dv.ownBlock=some k\/kv.ownBlock=some k\/lv.ownBlock=some k->a3t Bp W k:=h.row_c
   have cP:v'.ownBlock=some k->a3t Bp W k\/W.heap.size<=k:=λe=>by
    rcases hv with h1|⟨b,h1,h2⟩
    ·exact .inl (hold (.inl (h1▸e)))
    ·exact ylc
   rcases hk with hk|hk|hk
   ·exact cP hk
   ·exact .inl (hold (.inr (.inl hk)))
   ·exact .inl (hold (.inr (.inr hk)))
 ·exact yej
theorem PIr.add_keys (h:PIr n0 w Bp L dv kv lv pl W){v':Vu}{l2:List Ke}(hg:W.grownBy W' kv.ownBlock)(hr:W'.ownsRow n0 82 3 v' (pl.keys++l2).length ((pl.keys++l2).flatMap keE.enc))(hv:v'.ownBlock=kv.ownBlock\/∃b,v'.ownBlock=some b/\W.heap.size<=b) :
 Blk W' Bp #[dv,kv,lv] 45/\PIr n0 w Bp L dv v' lv { pl with keys:=pl.keys++l2 } (W'.setCell ⟨Bp,1,none⟩ v')/\KeepP (a3t Bp) n0 W (W'.setCell ⟨Bp,1,none⟩ v'):=by
 have jr:∀r,kv.ownBlock=some r->n0<=r/\r<W.heap.size:=λr e=>h.k.lt r e
 have kp:Blk W' Bp #[dv,kv,lv] 45:=h.p.kept hg (λe=>a0n h.k h.p jM e);have cf:=a0g W' Bp 1 v';have jD:∀r,kv.ownBlock=some r->∃cur,W.heap[r]? =some (.cells cur 82 (0,0)):=λr e=>by
  rcases h.k.2 with⟨rfl,-⟩|⟨g,cap,cur,rfl,-,ub,-⟩
  ·cases e
  ·cases e
   exact⟨cur,ub⟩
 have yo:W'.ownsRow n0 54 4 dv pl.dots.length (pl.dots.flatMap dtE.enc):=a0s h.d hg λr e=>by
  exact yci
 have ym:W'.ownsRow n0 68 3 lv pl.left.length (pl.left.flatMap lfE.enc):=a0s h.l hg λr e=>by
  exact yci
 have bu:Bp<W'.heap.size:=kp.lt;have bx:∀r,some Bp=some r->∃o:Obj,W'.heap[r]? =some o/\∀(cur:Array Value) (e:Td),e≠45->o≠.cells cur e (0,0):=λr e=>by
  exact ygc
 have tn:∀ {v:Vu} {e:Td} {s n:Nat} {xs:List Value},W'.ownsRow n0 e s v n xs->e≠45->(W'.setCell ⟨Bp,1,none⟩ v').ownsRow n0 e s v n xs:=λ{v e s n xs} hw he=>a0s hw cf λr er=>by
  exact yiv
 have hP:PIr n0 w Bp L dv v' lv { pl with keys:=pl.keys++l2 } (W'.setCell ⟨Bp,1,none⟩ v'):=by
  refine⟨kp.set 1 v',tn yo jM,tn hr jM,tn ym jM,λq hq=> ?_,h.ne,h.bp,?_,h.nw⟩
  ·have h1:=h.ne q hq
   refine((h.o q hq).kept hg (λe=> ?_)).kept cf (λe=> ?_)
   ·obtain⟨cur,hc⟩:=jD _ e
    have h2:=h.o q hq;unfold Blk at h2;rw[hc]at h2;simp only[Option.some.injEq,Obj.cells.injEq]at h2;exact absurd h2.2.1.symm h1.2.2.1
   ·cases e
    exact h1.1 rfl
  ·exact yfk
 refine⟨kp,hP,⟨⟨Nat.le_trans hg.size cf.size,λk hk hn=> ?_,λk hc=> ?_⟩,?_⟩⟩
 ·exact(cf.block k (Nat.lt_of_lt_of_le hk hg.size) λe=>hn (by cases e;exact h.box_c)).trans (hg.block k hk λe=>hn (h.row_c (.inr (.inl e.symm))))
 ·rcases hP.c_row hP.p hc with rfl|hk
  ·exact .inl h.box_c
  ·have hold:dv.ownBlock=some k\/kv.ownBlock=some k\/lv.ownBlock=some k->a3t Bp W k:=h.row_c
   have cP:v'.ownBlock=some k->a3t Bp W k\/W.heap.size<=k:=λe=>by
    rcases hv with h1|⟨b,h1,h2⟩
    ·exact .inl (hold (.inr (.inl (h1▸e))))
    ·exact ylc
   rcases hk with hk|hk|hk
   ·exact .inl (hold (.inl hk))
   ·exact cP hk
   ·exact .inl (hold (.inr (.inr hk)))
 ·exact yej
theorem PIr.add_left (h:PIr n0 w Bp L dv kv lv pl W){v':Vu}{l2:List Lf}(hg:W.grownBy W' lv.ownBlock)(hr:W'.ownsRow n0 68 3 v' (pl.left++l2).length ((pl.left++l2).flatMap lfE.enc))(hv:v'.ownBlock=lv.ownBlock\/∃b,v'.ownBlock=some b/\W.heap.size<=b) :
 Blk W' Bp #[dv,kv,lv] 45/\PIr n0 w Bp L dv kv v' { pl with left:=pl.left++l2 } (W'.setCell ⟨Bp,2,none⟩ v')/\KeepP (a3t Bp) n0 W (W'.setCell ⟨Bp,2,none⟩ v'):=by
 have jr:∀r,lv.ownBlock=some r->n0<=r/\r<W.heap.size:=λr e=>h.l.lt r e
 have kp:Blk W' Bp #[dv,kv,lv] 45:=h.p.kept hg (λe=>a0n h.l h.p jM e);have cf:=a0g W' Bp 2 v';have jD:∀r,lv.ownBlock=some r->∃cur,W.heap[r]? =some (.cells cur 68 (0,0)):=λr e=>by
  rcases h.l.2 with⟨rfl,-⟩|⟨g,cap,cur,rfl,-,ub,-⟩
  ·cases e
  ·cases e
   exact⟨cur,ub⟩
 have yo:W'.ownsRow n0 54 4 dv pl.dots.length (pl.dots.flatMap dtE.enc):=a0s h.d hg λr e=>by
  exact yci
 have yl:W'.ownsRow n0 82 3 kv pl.keys.length (pl.keys.flatMap keE.enc):=a0s h.k hg λr e=>by
  exact yci
 have bu:Bp<W'.heap.size:=kp.lt;have bx:∀r,some Bp=some r->∃o:Obj,W'.heap[r]? =some o/\∀(cur:Array Value) (e:Td),e≠45->o≠.cells cur e (0,0):=λr e=>by
  exact ygc
 have tn:∀ {v:Vu} {e:Td} {s n:Nat} {xs:List Value},W'.ownsRow n0 e s v n xs->e≠45->(W'.setCell ⟨Bp,2,none⟩ v').ownsRow n0 e s v n xs:=λ{v e s n xs} hw he=>a0s hw cf λr er=>by
  exact yiv
 have hP:PIr n0 w Bp L dv kv v' { pl with left:=pl.left++l2 } (W'.setCell ⟨Bp,2,none⟩ v'):=by
  refine⟨kp.set 2 v',tn yo jM,tn yl jM,tn hr jM,λq hq=> ?_,h.ne,h.bp,?_,h.nw⟩
  ·have h1:=h.ne q hq
   refine((h.o q hq).kept hg (λe=> ?_)).kept cf (λe=> ?_)
   ·obtain⟨cur,hc⟩:=jD _ e
    have h2:=h.o q hq;unfold Blk at h2;rw[hc]at h2;simp only[Option.some.injEq,Obj.cells.injEq]at h2;exact absurd h2.2.1.symm h1.2.2.2
   ·cases e
    exact h1.1 rfl
  ·exact yfk
 refine⟨kp,hP,⟨⟨Nat.le_trans hg.size cf.size,λk hk hn=> ?_,λk hc=> ?_⟩,?_⟩⟩
 ·exact(cf.block k (Nat.lt_of_lt_of_le hk hg.size) λe=>hn (by cases e;exact h.box_c)).trans (hg.block k hk λe=>hn (h.row_c (.inr (.inr e.symm))))
 ·rcases hP.c_row hP.p hc with rfl|hk
  ·exact .inl h.box_c
  ·have hold:dv.ownBlock=some k\/kv.ownBlock=some k\/lv.ownBlock=some k->a3t Bp W k:=h.row_c
   have cP:v'.ownBlock=some k->a3t Bp W k\/W.heap.size<=k:=λe=>by
    rcases hv with h1|⟨b,h1,h2⟩
    ·exact .inl (hold (.inr (.inr (h1▸e))))
    ·exact ylc
   rcases hk with hk|hk|hk
   ·exact .inl (hold (.inl hk))
   ·exact .inl (hold (.inr (.inl hk)))
   ·exact cP hk
 ·exact yej
end
def wdF (s:Sh)(ws:List Wy):List Dt:=a1k 2 (a4b s [] (ws.map Wy.key))
abbrev a2n (s:Sh)(ws:List Wy)(qs:List Pc):Pn:=a5j s.g (pfS s) a2s (wdF s ws) qs
structure PlanIn (W:Wd)(v:Vu)(pl:Pn):Prop where
 ex:∃dv kv lv,v=a1t dv kv lv/\(Lst dtE W.heap.size W dv pl.dots/\Frm dv pl.dots.length)/\(Lst keE W.heap.size W kv pl.keys/\Frm kv pl.keys.length)/\Lst lfE W.heap.size W lv pl.left/\Frm lv pl.left.length
theorem a9h (s:Sh)(ws:List Wy)(qs:List Pc):(a2n s ws qs).dots.length<=(wdF s ws).length+33*qs.length/\(a2n s ws qs).keys.length<=qs.length/\(a2n s ws qs).left.length<=qs.length:=by
 refine a4s (Q:=λqs=>(a2n s ws qs).dots.length<=(wdF s ws).length+33*qs.length/\(a2n s ws qs).keys.length<=qs.length/\(a2n s ws qs).left.length<=qs.length) ?_ ?_ qs
 ·simp[a2n,a5j]
 ·rintro qs p⟨h1,h2,h3⟩
  unfold a2n at h1 h2 h3 ⊢;rw[a4i];have hp:=a8h s p;have hk:(a2s p).length<=1:=by unfold a2s;cases c8u p <;> simp
  unfold a3k;split <;> simp only[List.length_append,List.length_cons,List.length_nil] <;> omega
theorem a7b {s:Sh}(hs:OkS s)(ws:List Wy):(wdF s ws).length<=6480:=by
 unfold wdF;rw[a3z];exact b0w hs _
theorem c3n {s:Sh}(hs:OkS s)(ws:List Wy)(qs:List Pc):∀d∈(a2n s ws qs).dots,Sm d:=λd hd=>by
 rcases b2t _ _ d hd with h|⟨p,-,h⟩
 ·exact d5k hs (e0w s _ d h)
 ·exact d5k hs (c7n s p d h)
theorem KxC.alloc {s:Sh}{ps:List Pc}{pre:List (Pc×Value)}{x:Pc×Value}{W:Wd}(o:Obj)(h:KxC s ps pre x W):KxC s ps pre x (W.alloc o) :=
 ⟨h.1,h.2.1.up ((zR _ _).alloc (yR _) _),h.2.2⟩
theorem b2a {W:Wd}{base b2:Nat}{e:Td}{s:Nat}{v:Vu}{n:Nat}{xs:List Value}(h:W.ownsRow base e s v n xs)(hb:b2<=base):W.ownsRow b2 e s v n xs :=
 ⟨h.1,h.2.imp id λ⟨g,cap,cur,e1,h1,h2⟩=>⟨g,cap,cur,e1,Nat.le_trans hb h1,h2⟩⟩
def PlI (n0:Nat)(w:Wd)(Bp:Nat)(L:List (Nat×Array Value×TypeId))(s:Sh)(ws:List Wy)(pre:List (Pc×Value))(W:Wd):Prop:=∃dv kv lv,PIr n0 w Bp L dv kv lv (a2n s ws (pre.map Prod.fst)) W
section
variable {n0 Bp:Nat}{w W W':Wd}{L:List (Nat×Array Value×TypeId)}{s:Sh}{ws:List Wy}{pre:List (Pc×Value)}
theorem PlI.turn (h:PlI n0 w Bp L s ws pre W){Z:Nat}(hz:n0<=Z)(hL:∀q∈L,q.1<Z){row:Option Nat}(hg:W.grownBy W' row)(hr:∀r,row=some r->Z<=r/\¬a3t Bp W r):PlI n0 w Bp L s ws pre W':=by
 obtain⟨dv,kv,lv,h⟩:=h;refine⟨dv,kv,lv,h.keep_row hg (λr e=> ?_) (λq hq e=> ?_)⟩
 ·have h1:=hr r e
  exact⟨Nat.le_trans hz h1.1,λe=>h1.2 (e▸h.box_c),λe=>h1.2 (h.row_c (.inl e)),λe=>h1.2 (h.row_c (.inr (.inl e))),λe=>h1.2 (h.row_c (.inr (.inr e)))⟩
 ·have:=(hr _ e.symm).1
  have:=hL q hq;omega
theorem PlI.mine (h:PlI n0 w Bp L s ws pre W){row:Option Nat}{k:Nat}(hg:W.grownBy W' row)(hr:∀r,row=some r->¬a3t Bp W r)(hc:a3t Bp W' k):a3t Bp W k:=by
 obtain⟨dv,kv,lv,h⟩:=h;rcases h.c_row (h.p.kept hg (λe=>hr _ e h.box_c)) hc with rfl|hk
 ·exact h.box_c
 ·exact h.row_c hk
end
def a8i (s:Sh)(n:Nat):List (Nat×Array Value×TypeId):=[(n+1,#[.int .i64 s.ax,.int .i64 s.ay,.int .i64 s.st,.int .i64 s.w,.int .i64 s.h,.int .i64 s.g],28),(n+1+1,#[.slice none 0 0,.slice none 0 0,.slice none 0 0],45)]
theorem a7c {s:Sh}{n:Nat}{Q:Nat×Array Value×TypeId->Prop}(h1:Q (n+1,#[.int .i64 s.ax,.int .i64 s.ay,.int .i64 s.st,.int .i64 s.w,.int .i64 s.h,.int .i64 s.g],28))(h2:Q (n+1+1,#[.slice none 0 0,.slice none 0 0,.slice none 0 0],45)):∀q∈a8i s n,Q q:=by
 intro q hq;unfold a8i at hq;rw[List.mem_cons,List.mem_singleton]at hq;rcases hq with rfl|rfl
 ·exact h1
 ·exact h2
theorem c7o (s:Sh)(f0:fits s.ax)(f1:fits s.ay)(hs:a1h s=0)(ev fv wv pv:Vu)(l:List Pc)(ws:List Wy)(w:Wd)(hL:Lst plE w.heap.size w pv l)(hF:Frm pv l.length)(hl:l.length<=80)(a7:∀p∈l,PcOk p/\p.cls.size<=1000)
 (hW:Wys w.heap.size w wv ws) (hid:∀y∈ws,fits y.id) (hlen:ws.length<=100) (aO:∀y∈ws,y.line.length<=100) (hPow:∀W,Below w.heap.size w W->Pow W) :
 Calls prog 10 #[b3t ev fv wv pv,shV s] w λe w'=>∃v,e= .returned (.tuple #[v,.int .i64 0])/\PlanIn w' v (a2n s ws (a0q l))/\Below w.heap.size w w':=by
 have iD:=a4l hs;have fV:=λpa pc w=>b3s s ev fv wv pa l.length pc w f0 f1
 unfold a2m at fV;rw[if_pos hs,if_neg oM]at fV;obtain⟨pa,pc,rfl,-⟩:=hL.form;refine(callsIn_wide (n:=3)).1 ?_;refine callsIn_of_wp_marks func10 rfl trivial ?_ rfl;simp only[ntmps10,List.size_toArray,List.length_cons,List.length_nil,Nat.reduceAdd,Nat.reduceSub,Array.replicate_succ,Array.replicate_zero,List.push_toArray,List.append_toArray,List.nil_append,List.cons_append];refine wpIn_wide.2 ?_;have gq:=λw4 (hb:Below w.heap.size w w4)=>(callsIn_wide (n:=3)).1 (d0a s wv ws w4 hs hid (hW.up hb hb.size) hlen aO)
 have jY:=λw4=>a5d s ev fv wv (.slice pa l.length pc) w4
 go_upto_region 5 with(first
  |(go_at_call 33;(with_reducible refine(fV _ _ _).mono ?_);rintro e W1⟨rfl,aw⟩
    obtain⟨W0,eA,k1,k2,k3,aE,aW⟩:=d8w w #[ev,fv,wv,.slice pa l.length pc] #[.int .i64 s.ax,.int .i64 s.ay,.int .i64 s.st,.int .i64 s.w,.int .i64 s.h,.int .i64 s.g] #[.slice none 0 0,.slice none 0 0,.slice none 0 0] 37 28 45;rw[eA]at aw;replace k1:=k1.below aw k1.lt;replace k2:=k2.below aw k2.lt;replace k3:=k3.below aw k3.lt;replace aE:=aE.trans (aw.mono aE.size);replace aW:=Nat.le_trans (Nat.le_of_eq aW.symm) aw.size;clear aw eA;obtain⟨m0,m1,m2,m3⟩:=zN4 k1;obtain⟨s0,s1,s2,s3,s4,s5⟩:=zN6 k2)
  |(go_at_call 34;(with_reducible refine(gq _ aE).mono ?_);rintro e W2⟨v,base,rfl,aD,ae,az⟩
    clear m0 m1 m2 m3 s0 s1 s2 s3 s4 s5;obtain⟨va,vc,rfl⟩:∃a c,v= .slice a (wdF s ws).length c:=by
     obtain⟨a,c,h,-⟩:=(a0d a4t ae (by have:=a7b iD ws;unfold wdF at this;omega)).form;exact⟨a,c,h⟩))
 have bF:=az.size;obtain⟨W3,ez,sG,aV,lZ⟩:=d8v W2 #[.slice va (wdF s ws).length vc,.slice none 0 0,.slice none 0 0] 45;have lg:=ez▸(b2a ae (Nat.le_trans aE.size aD)).alloc _;rw[ez];replace aV:=az.trans (aV.mono bF);have DD:=k1.below aV k1.lt;have yq:=k2.below aV k2.lt;have qZ:=k3.below aV k3.lt;have gQ:=aE.trans (aV.mono aE.size);clear ez aV k1 k2 k3 ae az gq fV;obtain⟨Bp,Fy⟩:=zE W2.heap.size;rw[Fy]at sG lZ bF ⊢;have jq:PIr w.heap.size w Bp (a8i s w.heap.size) (.slice va (wdF s ws).length vc) (.slice none 0 0) (.slice none 0 0) (a2n s ws []) W3:=by
  refine⟨sG,lg,⟨rfl,.inl ⟨rfl,rfl⟩⟩,⟨rfl,.inl ⟨rfl,rfl⟩⟩,a7c yq qZ,a7c ⟨by show w.heap.size+1≠Bp;omega,show(28:Nat)≠54 by decide,show(28:Nat)≠82 by decide,show(28:Nat)≠68 by decide⟩ ⟨by show w.heap.size+1+1≠Bp;omega,show(45:Nat)≠54 by decide,show(45:Nat)≠82 by decide,show(45:Nat)≠68 by decide⟩,oM,gQ,yR _⟩
 obtain⟨m0,m1,m2,m3⟩:=zN4 DD;obtain⟨s0,s1,s2,s3,s4,s5⟩:=zN6 yq;go_wp2_with (first
  |(go_at_call 35;(with_reducible refine(jY _).mono ?_);rintro e W5⟨rfl,km,ks,aZ⟩))
 rw[lZ]at km ks;have fI:Below w.heap.size w W5:=gQ.trans (aZ.mono gQ.size);have gD:=jq.below aZ;have AG:=aZ.size;clear jq m0 m1 m2 m3 s0 s1 s2 s3 s4 s5 DD yq qZ sG lg aZ jY;have hZ:∀q∈a8i s w.heap.size,q.1<W5.heap.size:=a7c (by show w.heap.size+1<_;omega) (by show w.heap.size+1+1<_;omega);have bN:=b7j 2 oM s f0 f1 ev fv wv (.slice pa l.length pc) l oM a7 (a3t Bp) w.heap.size W5 (Bp+1) (Bp+1+1) km ks (hL.up fI) hF fI.size
  (λW k hb hc=>by
   have Hu:=gD.below hb;have jR:=km.below hb km.lt;have eD:=ks.below hb ks.lt;rcases gD.c_row Hu.p hc with rfl|hk
   ·exact⟨oM,oM⟩
   ·refine⟨λe=> ?_,λe=> ?_⟩
    ·subst e
     exact hk.elim (a0n gD.d km jM) λhk=>hk.elim (a0n gD.k km jM) (a0n gD.l km jM)
    ·subst e
     exact hk.elim (a0n gD.d ks jM) λhk=>hk.elim (a0n gD.k ks jM) (a0n gD.l ks jM))
  (λW hb=>hPow W (fI.trans (hb.mono (yR _))))
 refine(wpIn_wide (n:=3)).1 (a9f (α:=Pc×Value) 28 8 (λx=>e0v s x) rfl oM rfl trivial (enters_of func84 zM rfl) (λW l k o o' h1 h2 h3=>d1d Bp W l k o o' h1 (a1s h2) (a1s h3)) (λW l o h1 h2=>b1z Bp W l o h1 (a1s h2)) (λW k o h1 h2=>c3m Bp W k o h1 (a1s h2)) (λk=>b7m) (n0:=w.heap.size) fI.size (Kx:=KxC s (a0q l)) (λpre x W l o o' h1 h2 h3=>KxC.put h1 (a1s h2) (a1s h3)) (S:=λxs=>xs.map Prod.fst=a0q l) (N:=101) (w0:=W5) bN (zR _ _)
  (λpre W=>PlI w.heap.size w Bp (a8i s w.heap.size) s ws pre W) (λpre A A' row h hg hr=>h.turn fI.size hZ hg hr) (λpre A A' row k h hg hr hc=>h.mine hg hr hc) ⟨_,_,_,gD⟩ (λ_ _=>False) (λ_ _ h=>h.elim) 92 (λx=> #[.int .i64 x.1.id,.int .i64 x.1.x,.int .i64 x.1.y,.string x.1.cls,.string x.1.nm,.int .i64 x.1.wt,.int .i64 x.1.ds,x.2,.bool (pfS s x.1).1]) (λpre x W o h=>h.alloc o) (λpre W k h hc=>b7m hc) ?assign ?body (λ_ _ _ _ h=>h.elim) ?done)
 case assign =>
  exact ycs
 case body =>
  clear bN km ks gD;rintro ly pre⟨⟨id,x,y,cls,nm,wt,ds⟩,xv⟩ W B ⟨dv,kv,lv,hP⟩ ⟨⟨rs,q9⟩,ig,mo⟩ hB DE re ag;have mz:(⟨id,x,y,cls,nm,wt,ds⟩:Pc)∈a0q l:=by rw[q9];simp
  obtain⟨dY,ie⟩:=a7 _ ((a0v l).mem_iff.1 mz);obtain⟨jt,du,kg⟩:=a9h s ws (pre.map Prod.fst);have iR:=a7b iD ws;have bR:=c3n iD ws (pre.map Prod.fst);have eT:=c7n s ⟨id,x,y,cls,nm,wt,ds⟩;have fM:=a8h s ⟨id,x,y,cls,nm,wt,ds⟩;have au:a2n s ws ((pre++[((⟨id,x,y,cls,nm,wt,ds⟩:Pc),xv)]).map Prod.fst)=a3k s.g (pfS s) a2s (a2n s ws (pre.map Prod.fst)) ⟨id,x,y,cls,nm,wt,ds⟩:=by
   rw[List.map_append];exact a4i (g:=s.g) (pf:=pfS s) (kf:=a2s) (wdF s ws) (pre.map Prod.fst) _
  obtain⟨pl,aO⟩:=zE (a2n s ws (pre.map Prod.fst));rw[aO]at jt du kg bR hP au;rw[List.length_map]at jt du kg;unfold PlI;rw[au];unfold a3k c9v;clear au aO;obtain⟨⟨on,dl⟩,gS⟩:∃r,pfS s ⟨id,x,y,cls,nm,wt,ds⟩=r:=⟨_,rfl⟩;simp only[gS]at hB ig mo eT fM ⊢;obtain⟨xa,xc,rfl,-⟩:=ig.form;obtain⟨da,dc,mL,-⟩:=(a0d a4t hP.d oM).form;obtain⟨ka,kc,yr,-⟩:=(a0d b4r hP.k oM).form;obtain⟨la,lc,aJ,-⟩:=(a0d a9w hP.l oM).form;subst mL yr aJ;have MK:=hP.hz;have b0:W.cell? ⟨B,0,none⟩=some (.int .i64 id):=hB.cell 0;have b7:W.cell? ⟨B,7,none⟩=some (.slice xa dl.length xc):=hB.cell 7;have b8:W.cell? ⟨B,8,none⟩=some (.bool on):=hB.cell 8;have p0:W.cell? ⟨Bp,0,none⟩=some (.slice da pl.dots.length dc):=hP.p.cell 0;have p2:W.cell? ⟨Bp,2,none⟩=some (.slice la pl.left.length lc):=hP.p.cell 2
  cases on
  ·rw[if_neg jM]
   gi_wp2_with (first
    |(gi_at_builtin;refine El.allIn a9w d7z qM _ _ qM w.heap.size qM pl.left (hP.l.alloc _) [⟨id,0,0⟩] qM (b7l a9w W ⟨id,0,0⟩) (.inr ⟨_,_,_,rfl⟩) uM uM (λ_ _=>trivial) ?_;intro v9 w9 aU bD br bj
      obtain⟨fW,bE,iW⟩:=hP.add_left ((World.grownBy_alloc W _ _).trans bD) aU (bj.imp (λe=>e) λe=>⟨_,e,by simp⟩);obtain⟨a9,n9,c9,rfl⟩:∃a n c,v9= .slice a n c:=by
       exact yfg
      have q2:w9.cell? ⟨Bp,2,none⟩=some (.slice la pl.left.length lc):=fW.cell 2;have z2:=fW.frozen 2;clear aU bD br bj))
   exact⟨_,_,_,bE⟩
  ·rw[if_pos rfl]
   have QE:∀d∈dl,Sm d:=λd hd=>d5k iD (eT d hd)
   have QF:=c5y (g:=s.g) bR QE;have iy:=b9f s.g (.slice da pl.dots.length dc) (.slice xa dl.length xc) pl.dots dl W (a0d a4t hP.d oM) (a1u hP.d) ig mo;rw[QF]at iy;have s5:W.cell? ⟨w.heap.size+1,5,none⟩=some (.int .i64 s.g):=(hP.o (w.heap.size+1,#[.int .i64 s.ax,.int .i64 s.ay,.int .i64 s.st,.int .i64 s.w,.int .i64 s.h,.int .i64 s.g],28) (by unfold a8i;simp)).cell 5;obtain⟨od,QG⟩:=zE (a5i s.g pl.dots dl);simp only[QG]at iy ⊢;have sH:∀W2,Below W.heap.size W W2->∀o,PIr w.heap.size w Bp (a8i s w.heap.size) (.slice da pl.dots.length dc) (.slice ka pl.keys.length kc) (.slice la pl.left.length lc) pl (W2.alloc o)/\KeepP (a3t Bp) w.heap.size W (W2.alloc o):=λW2 hb o =>
    ⟨(hP.below hb).below ((zR _ _).alloc (yR _) _),(hP.keepP hb).trans ((hP.below hb).keepP ((zR _ _).alloc (yR _) _))⟩
   cases od with
   |some d =>
    simp only[c9w,Option.map_some]at iy ⊢;gi_upto_region 11 with(first
     |(refine⟨trivial,?_⟩;gi_at_call 36;refine(CallsIn.inRound ly (callsIn_wide.2 iy)).mono ?_;rintro e W2⟨rfl,az⟩))
    obtain⟨eW,pB⟩:=sH W2 az (.cells #[.int .i64 d.x,.int .i64 d.y,.int .i64 d.k,.int .i64 d.i] 54);have aN:Blk (W2.alloc (.cells #[.int .i64 d.x,.int .i64 d.y,.int .i64 d.k,.int .i64 d.i] 54)) B _ _:=(hB.below az hB.lt).alloc _;have FW:=Blk.new W2 #[.int .i64 d.x,.int .i64 d.y,.int .i64 d.k,.int .i64 d.i] 54;have IX:=eW.hz;have QH:=eW.p.lt;obtain⟨W4,cQ⟩:=zE (W2.alloc (.cells #[.int .i64 d.x,.int .i64 d.y,.int .i64 d.k,.int .i64 d.i] 54));rw[cQ]at eW pB aN FW IX ⊢;obtain⟨Bd,ud⟩:=zE W2.heap.size;rw[ud]at FW ⊢;have e0:W4.cell? ⟨B,0,none⟩=some (.int .i64 id):=aN.cell 0;have e2:W4.cell? ⟨Bp,2,none⟩=some (.slice la pl.left.length lc):=eW.p.cell 2;have e3:W4.cell? ⟨Bd,2,none⟩=some (.int .i64 d.k):=FW.cell 2;have e4:W4.cell? ⟨Bd,3,none⟩=some (.int .i64 d.i):=FW.cell 3;clear cQ ud b0 b7 b8 p0 p2 s5 iy sH;gi_wp2_with (first
     |(gi_at_builtin;refine El.allIn a9w d7z qM _ _ qM w.heap.size qM pl.left (eW.l.alloc _) [⟨id,d.k,d.i⟩] qM (b7l a9w W4 ⟨id,d.k,d.i⟩) (.inr ⟨_,_,_,rfl⟩) uM uM (λ_ _=>trivial) ?_;intro v9 w9 aU bD br bj
       obtain⟨fW,bE,iW⟩:=eW.add_left ((World.grownBy_alloc _ _ _).trans bD) aU (bj.imp (λe=>e) λe=>⟨_,e,by simp⟩);obtain⟨a9,n9,c9,rfl⟩:∃a n c,v9= .slice a n c:=by
        exact yfg
       have q2:w9.cell? ⟨Bp,2,none⟩=some (.slice la pl.left.length lc):=fW.cell 2;have z2:=fW.frozen 2;clear aU bD br bj))
    exact⟨pB.trans iW,_,_,_,bE⟩
   |none =>
    simp only[c9w,Option.map_none]at iy ⊢;obtain⟨kL,rf⟩:=zE (a2s ⟨id,x,y,cls,nm,wt,ds⟩);rw[rf];gi_upto_region 12 with(first
     |(refine⟨trivial,?_⟩;gi_at_call 36;refine(CallsIn.inRound ly (callsIn_wide.2 iy)).mono ?_;rintro e W2⟨rfl,az⟩))
    obtain⟨eW,pB⟩:=sH W2 az (.cells #[.int .i64 0,.int .i64 0,.int .i64 0,.int .i64 0] 54);have aN:Blk (W2.alloc (.cells #[.int .i64 0,.int .i64 0,.int .i64 0,.int .i64 0] 54)) B _ _:=(hB.below az hB.lt).alloc _;have eC:Below W.heap.size W (W2.alloc (.cells #[.int .i64 0,.int .i64 0,.int .i64 0,.int .i64 0] 54)):=az.alloc az.size _;obtain⟨W4,cQ⟩:=zE (W2.alloc (.cells #[.int .i64 0,.int .i64 0,.int .i64 0,.int .i64 0] 54));rw[cQ]at eW pB aN eC ⊢;obtain⟨Bd,ud⟩:=zE W2.heap.size;rw[ud];have e0:W4.cell? ⟨Bp,0,none⟩=some (.slice da pl.dots.length dc):=eW.p.cell 0;have e7:W4.cell? ⟨B,7,none⟩=some (.slice xa dl.length xc):=aN.cell 7;have sI:=eW.hz;clear cQ ud b0 b7 b8 p0 p2 s5 iy sH;gi_upto_region 13 with(first
     |(gi_at_builtin;go_loud (refine El.allIn a4t e0b qM _ _ qM w.heap.size qM pl.dots eW.d dl qM (ig.up eC) mo oM sI (λ_ _=>trivial) ?_);intro v9 w9 aU bD br bj
       obtain⟨fW,bE,iW⟩:=eW.add_dots bD aU (bj.imp (λe=>e) λe=>⟨_,e,yR _⟩);obtain⟨a9,n9,c9,rfl⟩:∃a n c,v9= .slice a n c:=by
        exact yhi
       have q0:w9.cell? ⟨Bp,0,none⟩=some (.slice da pl.dots.length dc):=fW.cell 0;have z0:=fW.frozen 0;clear aU bD br bj))
    have DF:=pB.trans iW;obtain⟨W6,qP⟩:=zE (w9.setCell ⟨Bp,0,none⟩ (.slice a9 n9 c9));rw[qP]at bE DF ⊢;clear qP iW q0 z0 fW e0 e7 eW pB eC;have qK:=(DF.k.same B hB.lt (λh=>re _ h rfl)).trans hB;replace qK:Blk W6 B _ _:=qK;obtain⟨x0,x1,x2,x3,x4,x5,x6⟩:=zN7 qK;have cL:=d1a ⟨id,x,y,cls,nm,wt,ds⟩ dY.nm W6;obtain⟨ok,ki⟩:=zE (c8u ⟨id,x,y,cls,nm,wt,ds⟩);unfold a2s at rf;unfold e0c at cL;rw[ki]at cL rf;have UB:=bE.hz
    cases ok with
    |none =>
     simp only[Option.isSome_none,Option.toList_none]at cL rf;subst rf;gi_wp2_with (first
      |(refine⟨trivial,?_⟩;gi_at_call 37;refine(CallsIn.inRound ly (callsIn_wide.2 cL)).mono ?_;rintro e W7⟨k,rfl,-,eV⟩))
     have bf:Below W6.heap.size W6 (W7.alloc (.cells #[.int .i64 k.n,.int .i64 k.p,.string k.c] 82)):=eV.alloc eV.size _;exact⟨DF.trans (bE.keepP bf),_,_,_,bE.below bf⟩
    |some k0 =>
     simp only[Option.isSome_some,Option.toList_some]at cL rf;subst rf;gi_upto_region 15 with(first
      |(refine⟨trivial,?_⟩;gi_at_call 37;refine(CallsIn.inRound ly (callsIn_wide.2 cL)).mono ?_;rintro e W7⟨k,rfl,jI,eV⟩))
     obtain rfl:=jI k0 rfl;have bf:Below W6.heap.size W6 (W7.alloc (.cells #[.int .i64 k.n,.int .i64 k.p,.string k.c] 82)):=eV.alloc eV.size _;have jc:=bE.below bf;have ng:=DF.trans (bE.keepP bf);have dn:=Blk.new W7 #[.int .i64 k.n,.int .i64 k.p,.string k.c] 82;obtain⟨W8,jz⟩:=zE (W7.alloc (.cells #[.int .i64 k.n,.int .i64 k.p,.string k.c] 82));rw[jz]at jc ng dn ⊢;obtain⟨Bk,oN⟩:=zE W7.heap.size;rw[oN]at dn ⊢;obtain⟨y0,y1,y2⟩:=zN3 dn;have e1:W8.cell? ⟨Bp,1,none⟩=some (.slice ka pl.keys.length kc):=jc.p.cell 1;have ML:=jc.hz;clear jz oN x0 x1 x2 x3 x4 x5 x6 cL bf DF bE qK;gi_wp2_with (first
      |(gi_at_builtin;refine El.allIn b4r e2b qM _ _ qM w.heap.size qM pl.keys (jc.k.alloc _) [k] qM (b7l b4r W8 k) (.inr ⟨_,_,_,rfl⟩) uM uM (λ_ _=>trivial) ?_;intro v9 gh aU bD br bj
        obtain⟨fW,iU,yt⟩:=jc.add_keys ((World.grownBy_alloc _ _ _).trans bD) aU (bj.imp (λe=>e) λe=>⟨_,e,by simp⟩);obtain⟨QI,n10,yu,rfl⟩:∃a n c,v9= .slice a n c:=by
         exact ykq
        have q1:gh.cell? ⟨Bp,1,none⟩=some (.slice ka pl.keys.length kc):=fW.cell 1;have z1:=fW.frozen 1;clear aU bD br bj))
     exact⟨ng.trans yt,_,_,_,iU⟩
 case done =>
  intro D xs W hD hS hR hK;obtain⟨dv,kv,lv,hR⟩:=hR;rw[hS]at hR;have c0:W.cell? ⟨Bp,0,none⟩=some dv:=hR.p.cell 0;have c1:W.cell? ⟨Bp,1,none⟩=some kv:=hR.p.cell 1;have c2:W.cell? ⟨Bp,2,none⟩=some lv:=hR.p.cell 2;have hr:Blk W (w.heap.size+1+1) #[.slice none 0 0,.slice none 0 0,.slice none 0 0] 45:=hR.o (w.heap.size+1+1,#[.slice none 0 0,.slice none 0 0,.slice none 0 0],45) (by unfold a8i;simp);have r0:W.cell? ⟨w.heap.size+1+1,0,none⟩=some (.slice none 0 0):=hr.cell 0;have r1:W.cell? ⟨w.heap.size+1+1,1,none⟩=some (.slice none 0 0):=hr.cell 1;have r2:W.cell? ⟨w.heap.size+1+1,2,none⟩=some (.slice none 0 0):=hr.cell 2;have z0:=hr.frozen 0;have z1:=hr.frozen 1;have z2:=hr.frozen 2;obtain⟨jt,du,kg⟩:=a9h s ws (a0q l);have iR:=a7b iD ws;have fp:(a0q l).length=l.length:=(a0v l).length_eq;obtain⟨da,dc,mL,-⟩:=(a0d a4t hR.d oM).form;obtain⟨ka,kc,yr,-⟩:=(a0d b4r hR.k oM).form;obtain⟨la,lc,aJ,-⟩:=(a0d a9w hR.l oM).form;subst mL yr aJ;clear bN hS gD km ks;go_wp2_with fail;have lP:=((a0g W (w.heap.size+1+1) 0 (.slice da (a2n s ws (a0q l)).dots.length dc)).trans (a0g _ (w.heap.size+1+1) 1 (.slice ka (a2n s ws (a0q l)).keys.length kc))).trans (a0g _ (w.heap.size+1+1) 2 (.slice la (a2n s ws (a0q l)).left.length lc));have kA:=((hr.set 0 (.slice da (a2n s ws (a0q l)).dots.length dc)).set 1 (.slice ka (a2n s ws (a0q l)).keys.length kc)).set 2 (.slice la (a2n s ws (a0q l)).left.length lc);obtain⟨W6,qP⟩:=zE (((W.setCell ⟨w.heap.size+1+1,0,none⟩ (.slice da (a2n s ws (a0q l)).dots.length dc)).setCell ⟨w.heap.size+1+1,1,none⟩ (.slice ka (a2n s ws (a0q l)).keys.length kc)).setCell ⟨w.heap.size+1+1,2,none⟩ (.slice la (a2n s ws (a0q l)).left.length lc));rw[qP]at lP kA ⊢;clear qP;have yv:D<W.heap.size:=(Array.getElem?_eq_some_iff.1 hK).1;have MM:W6.heap[D]? =some (.deferred (some [])):=(lP.block D yv (λe=>by cases e;omega)).trans hK;have fg:=grownBy_putObj' W6 D (.deferred none);have tn:∀ {v:Vu} {e:Td} {s n:Nat} {xs:List Value},W.ownsRow w.heap.size e s v n xs->e≠45->(W6.putObj D (.deferred none)).ownsRow w.heap.size e s v n xs:=λ{v e s n xs} hw he=>a0s (a0s hw lP λr er=>by
   cases er;exact⟨_,hr,λcur e2=>by simp only[Obj.cells.injEq]at e2;exact he e2.2.1.symm⟩) fg λr er=>by
   cases er;exact⟨_,MM,λcur e2=>by cases e2⟩
  have t0:=tn hR.d jM;have t1:=tn hR.k jM;have t2:=tn hR.l jM;have k9:=kA.kept fg (λe=>by cases e;omega);have bU:Below w.heap.size w (W6.putObj D (.deferred none)):=(hR.bel.grown lP hR.hz λr e=>by cases e;omega).grown fg (Nat.le_trans hR.hz lP.size) λr e=>by cases e;omega
  refine⟨by simp,.inl ⟨_,_,rfl,run_takeDeferred MM,?_⟩⟩;exact⟨_,a1n qM _ _ _ 45 _ (0,0) _ qM k9 underlying45 qM zM,_,rfl,⟨_,_,_,rfl,⟨a0d a4t t0 oM,a1u t0⟩,⟨a0d b4r t1 oM,a1u t1⟩,a0d a9w t2 oM,a1u t2⟩,bU⟩
abbrev c3o (e:Int):List PanicEntry:=[{ v:= .iface 101 (.int .i64 e),recovered:=false }]
theorem a3o (e:Int)(w:Wd):Calls prog 106 #[.bool true,.int .i64 e] w λx w'=>x= .returned (.tuple #[])/\w'=w:=by
 go_enter func106,ntmps106;go_wp2_with fail;exact⟨rfl,_,results_none rfl _ _ _,rfl,rfl⟩
theorem a3e (e:Int)(w:Wd):Calls prog 106 #[.bool false,.int .i64 e] w λx w'=>x= .panicked (c3o e)/\w'=w:=by
 go_enter func106,ntmps106;go_wp2_with fail;exact⟨rfl,rfl,rfl⟩
theorem d5l (x:Lf)(I:Nat)(id:Int)(w:Wd)(h:w.cell? ⟨I,0,none⟩=some (.int .i64 id)) :
 Zc prog 153 #[.agg (lfE.enc x).toArray,.pointer (some ⟨I,0,none⟩)] w (.bool (decide (x.p=id))):=by
 obtain⟨p,k,i⟩:=x;by_cases hp:p=id
 ·subst hp
  go_enter func153,ntmps153;exact yeq
 ·have hb:(p==id)=false:=by simpa using hp
  go_enter func153,ntmps153;go_wp2_with fail;go_ret;exact⟨by simp[hp],zC⟩
theorem c3p (dv kv lv:Vu)(pl:Pn)(id:Int)(w:Wd)(hl:Lst lfE w.heap.size w lv pl.left)(hf:Frm lv pl.left.length) :
 Zc prog 107 #[a1t dv kv lv,.int .i64 id] w (.int .i64 (a8n (why pl id))):=by
 obtain⟨W,hW⟩:=zE ((w.alloc (.cells #[dv,kv,lv] 45)).alloc (.cells #[.int .i64 id] 3));have hb:Below w.heap.size w W:=by rw[<-hW];exact zC
 have kI:Blk W (w.heap.size+1) #[.int .i64 id] 3:=by rw[<-hW];have:=Blk.new (w.alloc (.cells #[dv,kv,lv] 45)) #[.int .i64 id] 3;rwa [World.size_alloc]at this
 have h0:=c2n lv pl.left W (hl.up hb) hf (λx=>decide (x.p=id)) 153 #[.pointer (some ⟨w.heap.size+1,0,none⟩)] (enters_of func153 zM rfl)
  (λX x hx=>(d5l x (w.heap.size+1) id X ((kI.below hx kI.lt).cell 0)).mono λ_ _ ⟨he,h⟩=>⟨he,hx.trans (h.mono hx.size)⟩)
 rw[show pl.left.findIdx? (λx=>decide (x.p=id))=why pl id from rfl]at h0;obtain⟨r,hr⟩:=zE (a8n (why pl id));rw[hr]at h0 ⊢;obtain⟨la,lc,rfl,-⟩:=hl.form;rw[<-hW]at h0;clear hr hW hb kI hl hf;go_enter func107,ntmps107;have wF:∀(fn:Fn) (first cap:Array Value) (w:Wd),(Instr.makeFunc fn first cap).run prog w= .ok (.func fn first cap) w:=λ_ _ _ _=>rfl
 go_wp2_with (go_at_call 152;refine(h0).mono ?_;rintro e w'⟨rfl,al⟩;obtain⟨p,rfl⟩:=a0c al;clear al);exact ybs
def okW (g:Int)(a b:Dt):Bool:=(decide (a.k≠3)&&decide (b.k≠3))|| !a7t g a b
def b5y (g:Int)(l:List Dt)(k:Nat):Bool:=match l[k]? with|some a=>(l.take k).all λb=>okW g a b|none=>true
def c3q (g:Int)(l:List Dt):Bool:=(List.range l.length).all (b5y g l)
theorem d5m {g:Int}{l:List Dt}(h:∀k,k<l.length->b5y g l k=true):c3q g l=true:=List.all_eq_true.2 λk hk=>h k (List.mem_range.1 hk)
theorem d5n {g:Int}{l:List Dt}{k j:Nat}{a b:Dt}(hk:l[k]? =some a)(hj:l[j]? =some b)(nY:j<k)(h:okW g a b=false):c3q g l=false:=by
 cases hg:c3q g l with
 |false=>rfl
 |true =>
  have h1:=List.all_eq_true.1 hg k (List.mem_range.2 (List.getElem?_eq_some_iff.1 hk).1);unfold b5y at h1;rw[hk]at h1;have h2:=List.all_eq_true.1 h1 b (List.mem_iff_getElem?.2 ⟨j,by rw[List.getElem?_take];simp[nY,hj]⟩);rw[h]at h2
  cases h2
theorem d5o (s:Sh)(dv kv lv:Vu)(l:List Dt)(w:Wd)(hd:Lst dtE w.heap.size w dv l)(hl:l.length<=100000) :
 Calls prog 49 #[shV s,a1t dv kv lv] w λe w'=>(c3q s.g l=true/\e= .returned (.tuple #[])\/c3q s.g l=false/\e= .panicked (c3o 41))/\Below w.heap.size w w':=by
 obtain⟨da,dc,rfl,-⟩:=hd.form;go_enter func49,ntmps49;go_upto_region 1 with fail;have k2:=(Blk.new w #[.int .i64 s.ax,.int .i64 s.ay,.int .i64 s.st,.int .i64 s.w,.int .i64 s.h,.int .i64 s.g] 28).alloc (.cells #[.slice da l.length dc,kv,lv] 45);have k3:=Blk.new (w.alloc (.cells #[.int .i64 s.ax,.int .i64 s.ay,.int .i64 s.st,.int .i64 s.w,.int .i64 s.h,.int .i64 s.g] 28)) #[.slice da l.length dc,kv,lv] 45;have hb:Below w.heap.size w ((w.alloc (.cells #[.int .i64 s.ax,.int .i64 s.ay,.int .i64 s.st,.int .i64 s.w,.int .i64 s.h,.int .i64 s.g] 28)).alloc (.cells #[.slice da l.length dc,kv,lv] 45)):=zC;rw[World.size_alloc]at k3;obtain⟨W,hW⟩:=zE ((w.alloc (.cells #[.int .i64 s.ax,.int .i64 s.ay,.int .i64 s.st,.int .i64 s.w,.int .i64 s.h,.int .i64 s.g] 28)).alloc (.cells #[.slice da l.length dc,kv,lv] 45));rw[hW]at k2 k3 hb ⊢;clear hW;have ue:=hd.up hb;have c0:W.cell? ⟨w.heap.size+1,0,none⟩=some (.slice da l.length dc):=k3.cell 0;go_wp2_with fail;clear c0;go_loopw [11] (λkk wr=>∃k:Nat,k<=l.length/\kk= .int .i64 (k:Nat)/\(∀j,j<k->b5y s.g l j=true)/\Below W.heap.size W wr) (λkk _=>l.length-(intOf kk).toNat)
 case atStart=>exact⟨0,Nat.zero_le _,rfl,λj hj=>absurd hj oM,zR _ _⟩
 case round =>
  obtain⟨k,hk,rfl,ah,aL⟩:=hrel;by_cases ag:k<l.length
  ·have aA:(k:Int)<(l.length:Int):=oM
   have uQ:=ue.up aL;obtain⟨b,off,cap,hv,bY,sj,hc⟩:=uQ.some_ oM;simp only[Value.slice.injEq,true_and]at hv;obtain⟨rfl,rfl⟩:=hv;obtain⟨a,ha⟩:=zE (l[k]);have aB:=hc k ag;rw[ha]at aB;have d0:wr.cell? ⟨b,off+k*4,none⟩=some (.int .i64 a.x):=aB 0 (show 0<4 by decide);have d1:wr.cell? ⟨b,off+k*4+1,none⟩=some (.int .i64 a.y):=aB 1 (show 1<4 by decide);have d2:wr.cell? ⟨b,off+k*4+2,none⟩=some (.int .i64 a.k):=aB 2 (show 2<4 by decide);have d3:wr.cell? ⟨b,off+k*4+3,none⟩=some (.int .i64 a.i):=aB 3 (show 3<4 by decide);have c0:wr.cell? ⟨w.heap.size+1,0,none⟩=some (.slice (some ⟨b,off,none⟩) l.length dc):=(k3.below aL k3.lt).cell 0;have iB:(0:Int)<=(k:Int):=oM;have ju:(k:Int)<=(dc:Int):=oM;clear aB hc;go_wp2_with fail;have kA:=Blk.new wr #[.int .i64 a.x,.int .i64 a.y,.int .i64 a.k,.int .i64 a.i] 54;have eh:Below W.heap.size W (wr.alloc (.cells #[.int .i64 a.x,.int .i64 a.y,.int .i64 a.k,.int .i64 a.i] 54)):=aL.alloc aL.size _;obtain⟨WA,tR⟩:=zE (wr.alloc (.cells #[.int .i64 a.x,.int .i64 a.y,.int .i64 a.k,.int .i64 a.i] 54));rw[tR]at kA eh ⊢;obtain⟨BA,MN⟩:=zE wr.heap.size;rw[MN]at kA ⊢;clear tR MN d0 d1 d2 d3 c0 uQ sj aL;go_loopw [21] (λjj wi=>∃j:Nat,j<=k/\jj= .int .i64 (j:Nat)/\(∀(i:Nat) (x:Dt),i<j->l[i]? =some x->okW s.g a x=true)/\Below WA.heap.size WA wi) (λjj _=>k-(intOf jj).toNat)
   case atStart=>exact⟨0,Nat.zero_le _,rfl,λi x hi=>absurd hi oM,zR _ _⟩
   case round =>
    obtain⟨j,hj,rfl,DG,wO⟩:=hrel;by_cases nY:j<k
    ·have Ah:(j:Int)<(k:Int):=oM
     have gK:Below W.heap.size W wr:=eh.trans (wO.mono eh.size);have vL:=ue.up gK;obtain⟨b',fh,aI,hv,-,-,hc⟩:=vL.some_ oM;simp only[Value.slice.injEq,Option.some.injEq,Addr.mk.injEq,and_true,true_and]at hv;obtain⟨⟨rfl,rfl⟩,rfl⟩:=hv;have DH:j<l.length:=oM;obtain⟨x,hx⟩:=zE (l[j]);have AH:=hc j DH;rw[hx]at AH;have e0:wr.cell? ⟨b,off+j*4,none⟩=some (.int .i64 x.x):=AH 0 (show 0<4 by decide);have e1:wr.cell? ⟨b,off+j*4+1,none⟩=some (.int .i64 x.y):=AH 1 (show 1<4 by decide);have e2:wr.cell? ⟨b,off+j*4+2,none⟩=some (.int .i64 x.k):=AH 2 (show 2<4 by decide);have e3:wr.cell? ⟨b,off+j*4+3,none⟩=some (.int .i64 x.i):=AH 3 (show 3<4 by decide);have MO:=kA.below wO kA.lt;obtain⟨a0,a1,a2,a3⟩:=zN4 MO;have s5:wr.cell? ⟨w.heap.size,5,none⟩=some (.int .i64 s.g):=(k2.below gK k2.lt).cell 5;have hN:=b5i a x s.g;have pq:l[j]? =some x:=by rw[List.getElem?_eq_getElem DH,hx]
     have cX:l[k]? =some a:=by rw[List.getElem?_eq_getElem ag,ha]
     obtain⟨nr,gI⟩:=zE (a7t s.g a x);rw[gI]at hN;have bG:∀ {W':Wd},okW s.g a x=true->Below wr.heap.size wr W'->∃i:Nat,i<=k/\((.int .i64 ((j+1:Nat):Int):Value))= .int .i64 (i:Nat)/\(∀(i':Nat) (x:Dt),i'<i->l[i']? =some x->okW s.g a x=true)/\Below WA.heap.size WA W':=λ{W'} ho gW=>⟨j+1,oM,rfl,λi' y DI hy=>by
      by_cases he:i'=j
      ·subst he
       rw[pq]at hy
       cases hy;exact ho
      ·exact DG i' y oM hy,wO.trans (gW.mono wO.size)⟩
     clear AH hc MO vL;by_cases gz:a.k≠3/\x.k≠3
     ·have h1:(a.k != 3)=true:=by simpa using gz.1
      have h2:(x.k != 3)=true:=by simpa using gz.2
      have ho:okW s.g a x=true:=by unfold okW;simp[gz.1,gz.2]
      clear hN gI;go_wp2_with (first
       |(go_at_call 106;go_loud (refine(a3o 41 _).mono ?_);rintro e w9⟨rfl,rfl⟩))
      go_roundw
      case rel=>exact bG ho zC
      case measure=>simp[intOf];omega
     ·have aC:a.k=3\/x.k=3:=oM
      have GR:nr=false->okW s.g a x=true:=λh=>by unfold okW;rw[gI,h];simp
      have GS:nr=true->okW s.g a x=false:=λh=>by unfold okW;rw[gI,h];simp;exact λh=>aC.resolve_left h
      clear gI gz;by_cases wN:a.k=3
      ·have h1:(a.k != 3)=false:=by simpa using wN
       exact yax
      ·have h1:(a.k != 3)=true:=by simpa using wN
       have h2:(x.k != 3)=false:=by simpa using aC.resolve_left wN
       exact yax
    ·obtain rfl:j=k:=oM
     have aY:¬(j:Int)<(j:Int):=oM;go_wp2_with fail;go_roundw
     case rel =>
      refine⟨j+1,oM,by go_num,λi hi=> ?_,eh.trans (wO.mono eh.size)⟩;by_cases he:i=j
      ·subst he
       unfold b5y;rw[List.getElem?_eq_getElem ag,ha];refine List.all_eq_true.2 λx hx=> ?_
       obtain⟨i',DI⟩:=List.mem_iff_getElem?.1 hx;rw[List.getElem?_take]at DI;split at DI
       ·exact DG i' x gM DI
       ·cases DI
      ·exact ah i oM
     case measure=>simp[intOf];omega
  ·obtain rfl:k=l.length:=oM
   have aY:¬(l.length:Int)<(l.length:Int):=oM;go_wp2_with fail;refine⟨rfl,_,results_none rfl _ _ _,.inl ⟨d5m ah,rfl⟩,hb.trans (aL.mono hb.size)⟩
end
end Go.Proofs.YtfocdbjceedagaaGreatDoor
