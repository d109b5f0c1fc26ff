/-
  Parts.
-/
import Derived.Test.YtfocdbjceedagaaGreatDoorMau
set_option linter.unusedVariables false
set_option linter.unusedSimpArgs false
set_option maxHeartbeats 8000000
set_option maxRecDepth 100000
namespace Go.Proofs.YtfocdbjceedagaaGreatDoor
open Tryz
section
open Go.RowKit Go.Shelf Go.Lib Go.Sort
attribute [local go_sem] Oper.semAt_some
attribute [local go_sem ↓] Go.wp_at_zero Go.wp_at_succ
theorem b2y (blk off cap N n a b:Nat)(d:Array Pc)(w0 w:World)(hW:SoW w0 blk off N n d w)(hab:a<=b)(hbn:b<=n)(hn:n<=1000) :
 Calls prog 170 #[.slice (some ⟨blk,off,none⟩) n cap,.int .i64 (a:Nat),.int .i64 (b:Nat),.func (.func 103) #[] #[]] w λe w'=>e= .returned (.tuple #[])/\SoW w0 blk off N n (insertionSort (ltOf a1j) d a b) w':=by
 have mixed:prog.follows .mixedOrders=true:=by kernel_rfl
 have HW:Hid (SoW w0 blk off N n d w):=hW;clear hW;go_enter func170,ntmps170;go_wp2_with fail;go_loopw [8] (λvi wr=>∃(i:Nat) (dk:Array Pc),vi= .int .i64 (i:Nat)/\a+1<=i/\i<=b+1/\Hid (SoW w0 blk off N n dk wr)/\Hid (insOuter (ltOf a1j) a b i dk=insOuter (ltOf a1j) a b (a+1) d)) (λvi _=>b+1-(intOf vi).toNat)
 case atStart=>exact⟨a+1,d,by go_num,oM,oM,HW,rfl⟩
 case round =>
  obtain⟨i,dk,rfl,hi1,hin,HR,HO⟩:=hrel;by_cases hlt:i<b
  ·have hltI:(i:Int)<(b:Int):=oM
   go_wp2_with fail;go_loopw [9] (λvj wr2=>∃(j:Nat) (dj:Array Pc),vj= .int .i64 (j:Nat)/\a<=j/\j<=i/\Hid (SoW w0 blk off N n dj wr2)/\Hid (insInner (ltOf a1j) a j dj=insInner (ltOf a1j) a i dk)) (λvj _=>(intOf vj).toNat)
   case atStart=>exact⟨i,dk,rfl,oM,oM,HR,rfl⟩
   case round =>
    obtain⟨j,dj,rfl,haj,hji,HJ,HI⟩:=hrel;have out:Hid ((j<=a\/ltOf a1j dj[j]! dj[j-1]! =false)->insOuter (ltOf a1j) a b (i+1) dj=insOuter (ltOf a1j) a b (a+1) d):=λhs=>by
     rw[<-HO.out,insOuter_go _ _ _ _ _ hlt,<-HI.out,insInner_stop _ _ _ _ hs]
    by_cases hj0:a<j
    ·have hj0I:(a:Int)<(j:Int):=oM
     obtain⟨jp,rfl⟩:∃jp,j=jp+1:=⟨j-1,oM⟩;have haI:(a:Int)<(jp:Int)+1:=oM;have hjn:jp+1<dj.size:=by rw[HJ.out.sz];omega
     obtain⟨xj,hxj⟩:=zE (dj[jp+1]!);obtain⟨xp,hxp⟩:=zE (dj[jp]!);obtain⟨a0,a1,a2,a3,a4,a5,a6⟩:=hxj▸HJ.out.row.pc hjn;obtain⟨b0,b1,b2,b3,b4,b5,b6⟩:=hxp▸HJ.out.row.pc (j:=jp) oM;have HX:Hid (dj[jp+1]! =xj/\dj[jp]! =xp):=⟨hxj,hxp⟩;obtain⟨cv,hcv⟩:=zE (a1j xj xp);have hcmp:∀W,Calls prog 103 #[plV xj,plV xp] W λe w'=>e= .returned (.int .i64 cv)/\Below W.heap.size W w':=λW=>by rw[<-hcv];exact a5z xj xp W
     have HC:Hid (a1j xj xp=cv):=hcv;clear hxj hxp hcv;obtain⟨i1,x1,y1,cl1,n1,wt1,d1⟩:=xj;obtain⟨i2,x2,y2,cl2,n2,wt2,d2⟩:=xp;have hwp:IntKind.i64.wrap (jp:Int)=(jp:Int):=by rw[IntKind.wrap_i64];omega
     have hjnI:(jp:Int)+1<(n:Int):=oM;have hjnI2:(jp:Int)<(n:Int):=oM;have hp0:(0:Int)<=(jp:Int)+1:=oM;have he0:((jp:Int)+1).toNat=jp+1:=oM;by_cases hlv:cv<0
     ·go_wp2_with fail
      first|with_reducible refine a0e zM zM ?_|with_reducible refine a0g zM zM ?_
      repeat(first|go_big_quiet_step ((go_at_call 103;exact Calls.grow_of (hcmp _)))|quiet_step ((go_at_call 103;exact Calls.grow_of (hcmp _))))
      refine wpQuiet_nil ?_;intro _ hw_;obtain⟨p,hw_⟩:=hw_;subst hw_;go_upto_region 6 with fail;obtain⟨W2,hW2⟩:=zE (wr.growBy p);rw[hW2];have HJ2:SoW w0 blk off N n dj W2:=by rw[<-hW2];exact HJ.out.below (below_growBy _ _)
      clear a0 a1 a2 a3 a4 a5 a6 b0 b1 b2 b3 b4 b5 b6 hW2 hcmp;obtain⟨a0,a1,a2,a3,a4,a5,a6⟩:=HX.out.1▸HJ2.row.pc hjn;obtain⟨b0,b1,b2,b3,b4,b5,b6⟩:=HX.out.2▸HJ2.row.pc (j:=jp) oM;obtain⟨f0,f1,f2,f3,f4,f5,f6⟩:=HJ2.row.pf hjn;obtain⟨g0,g1,g2,g3,g4,g5,g6⟩:=HJ2.row.pf (j:=jp) oM;have HJ3:=Lib.hid (HJ2.swap (j:=jp) oM);have hjj:jp+1<n:=oM;replace HJ2:=Lib.hid HJ2;simp only at a0 a1 a2 a3 a4 a5 a6 b0 b1 b2 b3 b4 b5 b6;go_big_region_o
      all_goals go_wp2_with fail
      go_roundw
      case rel =>
       refine⟨jp,swp dj (jp+1) jp,by go_num,oM,oM,?_,?_⟩
       ·exact yhe
       ·show _=_
        have h4:=insInner_go (ltOf a1j) a (jp+1) dj hj0 (by rw[HX.out.1,show jp+1-1=jp from rfl,HX.out.2,d1o,HC.out];exact hlv);rw[<-HI.out,h4];rfl
      case measure=>first|(simp[intOf];done)|(simp[intOf];omega)
     ·exact ybf
    ·obtain rfl:j=a:=oM
     have hj0I:¬(j:Int)<(j:Int):=oM;have hSo:=out.out (.inl (yR _));go_wp2_with fail;go_big_region_o
     all_goals go_wp2_with fail
     exact ygq
  ·have hgeI:¬(i:Int)<(b:Int):=oM
   exact ygb
theorem c2n (blk cap N n:Nat)(d:Array Pc)(w:World)(hW:SoW w blk 0 N n d w)(hn:n<=1000) :
 Calls prog 150 #[.slice (some ⟨blk,0,none⟩) n cap,.int .i64 (n:Nat),.func (.func 103) #[] #[]] w λe w'=>e= .returned (.tuple #[])/\SoW w blk 0 N n (insertionSort (ltOf a1j) d 0 n) w':=by
 have mixed:prog.follows .mixedOrders=true:=by kernel_rfl
 have HW:=Lib.hid hW;have hdz:=hW.sz;clear hW;go_enter func150,ntmps150;go_wp2_with fail;go_loopw [7,8] (λva vb wr=>∃(a:Nat) (dk:Array Pc),va= .int .i64 (a:Nat)/\vb= .int .i64 ((a:Int)+20)/\a<=n/\Hid (SoW w blk 0 N n dk wr)/\Hid (InI (ltOf a1j) 20 a n d dk)) (λva _ _=>n+1-(intOf va).toNat)
 case atStart=>exact⟨0,d,rfl,rfl,oM,HW,Lib.hid (InI.start hdz)⟩
 case round =>
  obtain⟨a,dk,rfl,rfl,han,HR,HI⟩:=hrel;by_cases hle:a+20<=n
  ·have hleI:(a:Int)+20<=(n:Int):=oM
   have hc:=b2y blk 0 cap N n a (a+20) dk w wr HR.out oM hle hn;rw[show((a+20:Nat):Int)=(a:Int)+20 by omega]at hc;have hw1:IntKind.i64.wrap ((a:Int)+20+20)=(a:Int)+20+20:=by rw[IntKind.wrap_i64];omega
   have hs1:=a2j (lt:=ltOf a1j) swoP dk (show a<=a+20 by omega) (by rw[HR.out.sz];exact hle);have HI2:=Lib.hid (HI.out.step hle hs1);clear hs1;go_wp2_with (first
    |(go_at_call 170;(with_reducible refine hc.mono ?_);rintro e w1⟨rfl,h1⟩))
   go_roundw
   case rel=>exact⟨a+20,_,by go_num,by go_num,hle,Lib.hid h1,HI2⟩
   case measure=>first|(simp[intOf];done)|(simp[intOf];omega)
  ·have hleI:¬(a:Int)+20<=(n:Int):=oM
   have hc:=b2y blk 0 cap N n a n dk w wr HR.out han (yR _) hn;have hs1:=a2j (lt:=ltOf a1j) swoP dk han (by rw[HR.out.sz];exact yR _);obtain⟨hz2,hst2,hb2⟩:=HI.out.last jM han oM hs1;obtain⟨d2,hd2⟩:=zE (insertionSort (ltOf a1j) dk a n);rw[hd2]at hc hz2 hst2 hb2;replace hst2:=Lib.hid hst2;replace hb2:=Lib.hid hb2;clear hs1 hd2 HI;go_wp2_with (first
    |(go_at_call 170;(with_reducible refine hc.mono ?_);rintro e w1⟨rfl,h1⟩))
   replace h1:=Lib.hid h1;clear hc HR;go_loopw [6] (λvs wr=>∃(s:Nat) (dk:Array Pc),vs= .int .i64 (s:Nat)/\20<=s/\s<=2000/\Hid (SoW w blk 0 N n dk wr)/\Hid (Stb (ltOf a1j) (ext d 0 n) (ext dk 0 n))/\Hid (Bks (ltOf a1j) s n dk)) (λvs _=>3000-(intOf vs).toNat)
   case atStart=>exact⟨20,d2,rfl,oM,oM,h1,hst2,hb2⟩
   case round =>
    obtain⟨s,dk2,rfl,hs20,hs2,HR,HS,HB⟩:=hrel;by_cases hsn:s<n
    ·have hsI:(s:Int)<(n:Int):=oM
     have hws:IntKind.i64.wrap (2*(s:Int))=2*(s:Int):=by rw[IntKind.wrap_i64];omega
     have hws2:IntKind.i64.wrap ((s:Int)*2)=(s:Int)*2:=by rw[IntKind.wrap_i64];omega
     go_wp2_with fail;go_loopw [7,8] (λva vb wr=>∃(a:Nat) (dk:Array Pc),va= .int .i64 (a:Nat)/\vb= .int .i64 ((a:Int)+2*(s:Int))/\a<=n/\Hid (SoW w blk 0 N n dk wr)/\Hid (MrI (ltOf a1j) s a n d dk)) (λva _ _=>n+1-(intOf va).toNat)
     case atStart=>exact⟨0,dk2,rfl,by go_num,oM,HR,Lib.hid (MrI.start HR.out.sz HS.out HB.out)⟩
     case round =>
      obtain⟨a,dk,rfl,rfl,han,HK,HM⟩:=hrel;have hwa:IntKind.i64.wrap ((a:Int)+(s:Int))=(a:Int)+(s:Int):=by rw[IntKind.wrap_i64];omega
      by_cases hle:a+2*s<=n
      ·have hleI:(a:Int)+2*(s:Int)<=(n:Int):=oM
       have hwb:IntKind.i64.wrap ((a:Int)+2*(s:Int)+2*(s:Int))=(a:Int)+2*(s:Int)+2*(s:Int):=by rw[IntKind.wrap_i64];omega
       obtain⟨g1,g2⟩:=HM.out.two;have hc:=a6p blk 0 cap N n w hn (2*s) a (a+s) (a+2*s) dk wr oM HK.out oM oM hle (SortedIn.mono g1 (yR _) oM) (SortedIn.mono g2 (yR _) oM);rw[show((a+s:Nat):Int)=(a:Int)+(s:Int) by omega,show((a+2*s:Nat):Int)=(a:Int)+2*(s:Int) by omega]at hc;clear g1 g2;go_wp2_with (first
        |(go_at_call 171;(with_reducible refine hc.mono ?_);rintro e w1⟨rfl,d3,h3,r3⟩))
       go_roundw
       case rel=>exact⟨a+2*s,d3,by go_num,by go_num,hle,Lib.hid h3,Lib.hid (HM.out.step oM hle r3)⟩
       case measure=>first|(simp[intOf];done)|(simp[intOf];omega)
      ·have hleI:¬(a:Int)+2*(s:Int)<=(n:Int):=oM
       by_cases hms:a+s<n
       ·have hmI:(a:Int)+(s:Int)<(n:Int):=oM
        obtain⟨g1,g2⟩:=HM.out.two;have hc:=a6p blk 0 cap N n w hn (2*s) a (a+s) n dk wr oM HK.out oM hms (yR _) (SortedIn.mono g1 (yR _) oM) (SortedIn.mono g2 (yR _) oM);rw[show((a+s:Nat):Int)=(a:Int)+(s:Int) by omega]at hc;clear g1 g2;go_wp2_with (first
         |(go_at_call 171;(with_reducible refine hc.mono ?_);rintro e w1⟨rfl,d3,h3,r3⟩))
        go_roundw
        case rel =>
         obtain⟨-,k2,k3⟩:=HM.out.last oM han oM r3;exact⟨2*s,d3,by go_num,oM,oM,Lib.hid h3,Lib.hid k2,Lib.hid k3⟩
        case measure=>first|(simp[intOf];done)|(simp[intOf];omega)
       ·have hmI:¬(a:Int)+(s:Int)<(n:Int):=oM
        go_wp2_with fail;go_roundw
        case rel =>
         obtain⟨-,k2,k3⟩:=HM.out.last0 oM han oM;exact⟨2*s,dk,by go_num,oM,oM,HK,Lib.hid k2,Lib.hid k3⟩
        case measure=>first|(simp[intOf];done)|(simp[intOf];omega)
    ·have hsI:¬(s:Int)<(n:Int):=oM
     go_wp2_with fail;go_end0;refine⟨rfl,?_⟩;rw[<-c9o swoP hdz HR.out.sz HS.out HB.out oM];exact HR.out
theorem c2o (base:Nat)(v:Value)(l:List Pc)(w:World)(hl:l.length<=1000)(hrow:w.ownsRow base 66 7 v l.length (l.flatMap plE.enc)) :
 Calls prog 102 #[v,.func (.func 103) #[] #[]] w λe w'=>e= .returned (.tuple #[])/\w'.ownsRow base 66 7 v l.length ((a0t l).flatMap plE.enc)/\w.grownBy w' v.ownBlock:=by
 rcases hrow.2 with⟨rfl,h0⟩|⟨g,cap,cur,rfl,hb,hg,h1,h2,h3,h4⟩
 ·obtain rfl:=List.eq_nil_of_length_eq_zero h0
  exact b8i base _ [] w vM hrow
 ·obtain⟨hS,hb0⟩:=b4h hrow
  have c1:=c2n g cap (cap*7) l.length l.toArray w hS hl;clear hrow hg h3 h4;go_enter func102,ntmps102;go_wp2_with (go_at_call 150;refine c1.mono ?_;rintro e w1⟨rfl,hd⟩);go_end0;exact⟨rfl,b4i hd hb0 h1 h2,hd.gr⟩
end
section
open Go Go.RowKit Go.Shelf Go.Lib
attribute [local go_sem] Oper.semAt_some
attribute [local go_sem ↓] Go.wp_at_zero Go.wp_at_succ
variable{W:World}
theorem c4y {n:ByteArray}(h:n≠⟨#[]⟩):n.toList.isEmpty=false:=by
 cases hc:n.toList.isEmpty with
 |false=>rfl
 |true =>
  rw[List.isEmpty_iff,ByteArray.toList_eq]at hc;refine absurd ?_ h
  cases n;simp only at hc;rw[Array.toList_eq_nil_iff]at hc;rw[hc]
def d1k (p:Pc):Option Ke:=if p.nm=⟨#[]⟩then none else if(a5s p.nm).2=0 then some ⟨p.id,p.id,(a5s p.nm).1⟩else none
def a7e (p:Pc):List Ke:=(d1k p).toList
abbrev keV (k:Ke):Value:= .agg #[.int .i64 k.n,.int .i64 k.p,.string k.c]
def d8j (o:Option Ke)(w:World)(e:Ending)(w':World):Prop:=∃k,e= .returned (.tuple #[keV k,.bool o.isSome])/\(∀x,o=some x->k=x)/\Below w.heap.size w w'
theorem c9s (p:Pc)(hp:p.nm.size<=1000)(w:World):
 Calls prog 37 #[plV p] w (d8j (d1k p) w):=by
 have hW:=c8q p.nm hp;unfold d1k;obtain⟨id,x,y,cl,nm,wt,ds⟩:=p;simp only at hW ⊢;by_cases hn:nm=⟨#[]⟩
 ·subst hn
  rw[if_pos rfl];go_enter func37,ntmps37;exact ybm
 ·rw[if_neg hn]
  have hne:=c4y hn;obtain⟨c,hc⟩:=zE ((a5s nm).1);obtain⟨er,her⟩:=zE ((a5s nm).2);rw[hc,her]at hW ⊢;clear hc her hn;by_cases h0:er=0
  ·subst h0
   rw[if_pos rfl];go_enter func37,ntmps37;go_wp2_with (go_at_call 64;refine(hW _).mono ?_;rintro e w'⟨rfl,hb_⟩;obtain⟨p,rfl⟩:=a0b hb_;clear hb_);exact ybq
  ·rw[if_neg h0]
   have h0b:(er==0)=false:=by simpa using h0
   go_enter func37,ntmps37;go_wp2_with (go_at_call 64;refine(hW _).mono ?_;rintro e w'⟨rfl,hb_⟩;obtain⟨p,rfl⟩:=a0b hb_;clear hb_);exact ybt
def a3c (s:Sh)(n:Nat):Int:=if a1g s=0 then if 80<n then 2 else 0 else a1g s
theorem a8q (s:Sh)(ev fv wv:Value)(pa:Option Addr)(n pc:Nat)(w:World)(f0:fits s.ax)(f1:fits s.ay):
 Calls prog 33 #[.agg #[ev,fv,wv,.slice pa n pc],shV s] w λe w'=>e= .returned (.int .i64 (a3c s n))/\Below w.heap.size w w':=by
 unfold a3c;obtain⟨r,hr⟩:=zE (a1g s);have hC:=λw=>a8d hr w f0 f1
 rw[hr];clear hr f0 f1;obtain⟨ax,ay,st,sw,sh,sg⟩:=s;by_cases h0:r=0
 ·subst h0
  rw[if_pos rfl];by_cases hn:80<n
  ·rw[if_pos hn]
   have hnI:(80:Int)<(n:Int):=oM;exact ydm
  ·rw[if_neg hn]
   have hnI:¬(80:Int)<(n:Int):=oM;exact ydm
 ·rw[if_neg h0]
  exact ydm
theorem a6y {base base':Nat}{e:TypeId}{s:Nat}{v:Value}{n:Nat}{xs:List Value}(h:W.ownsRow base e s v n xs)(hb:base'<=base):W.ownsRow base' e s v n xs:=by
 exact yhp
theorem c9t {w W1 W2:World}{u:Value}{l:List Pc}(hb1:Below w.heap.size w W)(hr:W1.ownsRow W.heap.size 66 7 u l.length (l.flatMap plE.enc))(hb2:Below W.heap.size W W1)(hr2:W2.ownsRow W.heap.size 66 7 u l.length ((a0t l).flatMap plE.enc))(hg:W1.grownBy W2 u.ownBlock):
 w.heap.size<=W.heap.size/\W2.ownsRow w.heap.size 66 7 u l.length ((a0t l).flatMap plE.enc)/\Below w.heap.size w W2:=by
 have h1:=hb1.trans (hb2.mono hb1.size);exact⟨hb1.size,a6y hr2 hb1.size,h1.trans (a1n hg h1.size (λk e=>Nat.le_trans hb1.size (hr.lt k e).1))⟩
theorem a7s (ev fv wv pv:Value)(l:List Pc)(w:World)(h:Lst plE w.heap.size w pv l)(hf:Frm pv l.length)(hl:l.length<=100):
 Calls prog 44 #[.agg #[ev,fv,wv,pv]] w λe w'=>∃v,e= .returned v/\w'.ownsRow w.heap.size 66 7 v l.length ((a0t l).flatMap plE.enc)/\Below w.heap.size w w':=by
 have hb1:Below w.heap.size w (w.alloc (.cells #[ev,fv,wv,pv] 37)):=(zR _ _).alloc (yR _) _;have hC:=c0v pv l _ (h.up hb1) hf oM;obtain⟨pa,pc,rfl,-⟩:=h.form;have hS:=λv W1 hr=>c2o (w.alloc (.cells #[ev,fv,wv,.slice pa l.length pc] 37)).heap.size v l W1 oM hr
 go_enter func44,ntmps44;go_upto_region 2 with(first
  |(go_at_call 101;refine hC.mono ?_;rintro e w1⟨u,rfl,hr1,hb2⟩))
 have hS2:=hS u w1 hr1;clear hS hC h;go_wp2_with (first
  |(go_at_call 102;refine hS2.mono ?_;rintro e w2⟨rfl,hr2,hg2⟩))
 go_ret;exact⟨u,rfl,(c9t hb1 hr1 hb2 hr2 hg2).2⟩
end
section
open Go Go.RowKit
variable{a:Act}{Q:Exit->Act->World->Prop}{n:Nat}{g:Operand}{P:Program}{w:World}
def a6q :Obj->Bool
 |.loop _=>true
 |.deferred _=>true
 |_=>false
theorem a1o {o:Obj}(h:a6q o=true):o.isCells=false:=by
 cases o <;> first|rfl|cases h
def c6i (P:Program)(l:Nat)(R:Ending->World->Prop):Exit->Act->World->Prop
 |.normal,_,w=>∃v w',(Instr.endRound l none).run P w= .ok v w'/\R (.returned v) w'
 |.panic ch,a,w=>a.defers=[]/\R (.panicked ch) w
 |_,_,_=>False
theorem b9k {F:Fence}{l:Nat}{f:FuncId}{tmps:Array Value}{assign body:Code}{R:Ending->World->Prop}(hF:F.fn f)(hf:∀ch w,R (.panicked ch) w->∃fn,P.funcs[f]? =some fn)
 (h:assign.wpIn (F.inRound l) n P (Exit.then (λa₁ w₁=>∃w₂,(Instr.beginRound l).run P w₁= .ok () w₂/\body.wpIn (F.inRound l) n P (c6i P l R) a₁ w₂) (λ_ _ _=>False)) { tmps:=tmps,defers:=[] } w) :
 RoundIn F n P l f tmps assign body w R:=by
 refine⟨hF,λc cs hr=> ?_⟩;let b:Frame:={ (default:Frame)with fn:=f,kind:= .normal,roundOf:=some l }
 have hb0:Frame.round l f tmps assign body .normal=b.atR { tmps:=tmps,defers:=[] } [.code assign,.beginRound,.code body]:=by simp[Frame.round,Frame.atR,b]
 have hr':(F.inRound l).room ((c::cs).length+1+n):=hr;have hF':(F.inRound l).fn b.fn:=hF;obtain⟨e,a₁,w₁,hq,harr⟩:=h b [.beginRound,.code body] (c::cs) rfl hF' hr';rw[<-hb0]at harr
 cases e <;> try exact hq.elim
 obtain⟨w₂,hbr,hbody⟩:=hq;have s1:StepsIn (Machine.fenced P (F.inRound l)) P (lone (b.atR a₁ [.beginRound,.code body]) (c::cs) w₁) (lone (b.atR a₁ [.code body]) (c::cs) w₂) :=
  .one (fenced_calm (fr:=b.atR a₁ [.beginRound,.code body]) hF' hr' rfl) (stepR_beginRound rfl hbr)
 obtain⟨e₂,a₂,w₃,hq₂,harr₂⟩:=hbody b [] (c::cs) rfl hF' hr';have s2:=StepsIn.trans harr s1
 cases e₂ <;> try exact hq₂.elim
 case normal =>
  obtain⟨v,w₄,hend,hR⟩:=hq₂;exact⟨.returned v,w₄,hR,s2.trans (StepsIn.trans harr₂ (.one (fenced_calm (fr:=b.atR a₂ []) hF' hr' rfl) (stepR_round_end rfl rfl hend)))⟩
 case panic ch =>
  obtain⟨hd,hR⟩:=hq₂;obtain⟨todo,hs⟩:=harr₂;have hleave:Frame.leaving P { b.atR a₂ todo with mode:= .panicking ch } w₃ (.panicked ch):=⟨rfl,hd,hf ch w₃ hR⟩;have hl:(lone { b.atR a₂ todo with mode:= .panicking ch } (c::cs) w₃).fenced P (F.inRound l):=fenced_leaving hF' hr' hleave;exact⟨.panicked ch,w₃,hR,s2.trans (StepsIn.trans hs (.one hl (step_leave_panicked hleave)))⟩
structure KeepP (C:World->Nat->Prop)(n0:Nat)(A B:World):Prop where
 k:KeepC C A B
 b:Below n0 A B
def d8k {α:Type}(F:Fence)(n:Nat)(P:Program)(g:Nat)(lb:Array Value)(encs:α->Array Value)(C:World->Nat->Prop)(n0:Nat)(Kx:List α->α->World->Prop)(S:List α->Prop)(N:Nat)(w:World):Prop :=
 ∀(l:Nat) (J:List α->World->Prop) (Jp:List PanicEntry->World->Prop) (W:World),Below w.heap.size w W ->
  (∀s A A' row,J s A->A.grownBy A' row->(∀r,row=some r->W.heap.size<=r/\¬C A r)->J s A')->(∀s A A' row k,J s A->A.grownBy A' row->(∀r,row=some r->¬C A r)->C A' k->C A k)->(∀k,C W k->k<W.heap.size) ->
  (∀pre x W1,J pre W1->Kx pre x W1->pre.length<N->YieldAt F (n-1) P l (encs x) W1 λe W'=>(e= .returned (.bool true)/\J (pre++[x]) W'/\KeepP C n0 W1 W')\/∃ch,e= .panicked ch/\Jp ch W')->J [] W ->
  CallsIn F n P g (#[.func (.yield l) #[] #[]]++lb) W λe W'=>((∃v,e= .returned v)/\∃xs,S xs/\J xs W')\/∃ch,e= .panicked ch/\Jp ch W'
theorem a9t {F:Fence}{α:Type}{ps:Array Tmp}{assign body:Code}{Q:Exit->Act->World->Prop}
 (hro:F.round=none) (h1:1<=n) {gf:Nat} {lb:Array Value} (hg:a.eval g= .func (.func gf) #[] lb) (hFg:F.fn gf) (eg:∀args w,(callFunc gf args).run P w= .ok (.enter gf args) w)
 {encs:α->Array Value} {C:World->Nat->Prop} (hC:∀(W:World) (l k:Nat) (o o':Obj),W.heap[l]? =some o->a6q o=true->a6q o'=true->(C (W.putObj l o') k↔C W k)) (hCl:∀(W:World) (l:Nat) (o:Obj),W.heap[l]? =some o->a6q o=true->¬C W l)
 (hCa:∀(W:World) (k:Nat) (o:Obj),C (W.alloc o) k->a6q o=true->C W k) (hC0:∀k,C w k->k<w.heap.size)
 {n0:Nat} (hn0:n0<=w.heap.size) {Kx:List α->α->World->Prop} (hKp:∀pre x (W:World) (l:Nat) (o o':Obj),W.heap[l]? =some o->a6q o=true->a6q o'=true->Kx pre x W->Kx pre x (W.putObj l o')) {S:List α->Prop} {N:Nat} {w0:World} (hseq:d8k F (n-1) P gf lb encs C n0 Kx S N w0) (hb0:Below w0.heap.size w0 w) (hps:∀x,(encs x).size=ps.size)
 (I:List α->World->Prop) (hI:∀pre A A' row,I pre A->A.grownBy A' row->(∀r,row=some r->w.heap.size<=r/\¬C A r)->I pre A') (hIC:∀pre A A' row k,I pre A->A.grownBy A' row->(∀r,row=some r->¬C A r)->C A' k->C A k) (h0:I [] w) (Ip:List PanicEntry->World->Prop) (hfs:∀ch W,Ip ch W->∀fn,F.fn fn->∃x,P.funcs[fn]? =some x) (tb:TypeId) (bx:α->Array Value) (hKa:∀pre x (W:World) (o:Obj),Kx pre x W->Kx pre x (W.alloc o)) (hCs:∀pre W k,I pre W->C W k->k<W.heap.size) (a₁:α->Nat->Act)
 (hassign:∀(l:Nat) (pre:List α) (x:α) (W:World) (K:Act->World->Prop),Kx pre x W->K (a₁ x W.heap.size) (W.alloc (.cells (bx x) tb))->assign.wpIn (F.inRound l) (n-1-1) P (Exit.then K (λ_ _ _=>False)) { tmps:=(ps.zip (encs x)).foldl (λt (p,v)=>t.setIfInBounds p v) a.tmps,defers:=[] } W)
 (hbody:∀(l:Nat) (pre:List α) (x:α) (W:World) (B:Nat),I pre W->Kx pre x W->Blk W B (bx x) tb->w.heap.size<=B->(∀k,C W k->k≠B)->pre.length<N->body.wpIn (F.inRound l) (n-1-1) P (λe a' W'=>(e= .normal/\KeepP C n0 W W'/\I (pre++[x]) W')\/∃ch,e= .panic ch/\a'.defers=[]/\KeepP C n0 W W'/\Ip ch W') (a₁ x B) W)
 (hpan:∀(D:Nat) (ch:List PanicEntry) (W:World),w.heap.size<=D->Ip ch W->W.heap[D]? =some (.deferred (some []))->Q (.panic ch) { a with defers:={ target:= .collected D,args:= #[] }::a.defers } W)
 (hdone:∀(D:Nat) (xs:List α) (W:World),w.heap.size<=D->S xs->I xs W->W.heap[D]? =some (.deferred (some []))->Q .normal { a with defers:={ target:= .collected D,args:= #[] }::a.defers } W) :
 (Code.rangeFunc g ps assign body).wpIn F n P Q a w:=by
 refine wpIn_rangeFunc λfn hfn=> ?_
 rw[hro]
 -- the two blocks of the statement: the rounds' deferred calls, and the loop's record, in its states
 obtain⟨D,hD⟩:=zE w.heap.size;let R:LoopState->Option Code->Loop:=λst pe=>{ state:=st,pending:=pe,fn,tmps:=a.tmps,params:=ps,assign,body,defers:=D }
 let W1:World:=(w.alloc (.deferred (some []))).alloc (.loop (R .ready none))
 have s1:W1.heap.size=D+2:=by simp[W1,hD]
 have g1:w.grownBy W1 none:=by
  exact ydl
 have l1:W1.heap[D+1]? =some (.loop (R .ready none)):=by
  exact yie
 have d1:W1.heap[D]? =some (.deferred (some [])):=by
  exact ygu
 have hCW:∀k,C W1 k->k<W1.heap.size:=λk hk=>by
  have:=hC0 k (hCa _ k _ (hCa _ k _ hk rfl) rfl);omega
 refine⟨D+1,[{ target:= .collected D,args:= #[] }],W1,{ target:= .fn (.func gf) lb,args:= #[.func (.yield (D+1)) #[] #[]] },W1,gf,#[.func (.yield (D+1)) #[] #[]]++lb,W1,?_,?_,?_,?_,λ_=>h1,?_⟩
 ·subst hD
  exact run_enterLoop_outer _ _ _ _ _
 ·simp only[resolve,hg]
  simp[go_sem]
 ·intro f' hf'
  simp[Target.leads]at hf';subst hf';exact hFg
 ·simp[invoke,go_sem,eg]
 ·have hb1:Below w0.heap.size w0 W1:=hb0.trans ((show Below w.heap.size w W1 from⟨g1.os,g1.tape,g1.output,g1.size,λk hk=>g1.block k hk vM⟩).mono hb0.size)
  refine(hseq (D+1) (λpre W=>I pre W/\W.heap[D+1]? =some (.loop (R .ready none))/\W.heap[D]? =some (.deferred (some []))) (λch W=>Ip ch W/\W.heap[D]? =some (.deferred (some []))) W1 hb1 ?_ (λs A A' row k hJ=>hIC s A A' row k hJ.1) hCW ?_ ⟨hI [] w W1 none h0 g1 vM,l1,d1⟩).mono ?_
  ·exact yda
  ·rintro pre x W⟨hi,hl,hd⟩ hkx hlen
   have hlt:D+1<W.heap.size:=(Array.getElem?_eq_some_iff.1 hl).1;have hy:=run_yield (P:=P) (args:=encs x) hl (hps x);refine⟨fn,_,assign,body,hy,b9k hfn (λch w hR=>hR.elim (λh=>nomatch h.1) (λh=>by obtain⟨ch',h1,h2⟩:=h;cases h1;exact hfs ch w h2.1 fn hfn)) (hassign _ pre x W _ hkx ?_)⟩;exact yag
  ·rintro e W2 (⟨⟨v,rfl⟩,xs,hS,hi,hl,hd⟩|⟨ch,rfl,hp,hd⟩)
   rotate_left
   ·exact hpan D ch W2 oM hp hd
   have hr:=run_endLoop (P:=P) hl (by simp[R]);refine⟨none,_,hr,?_⟩;exact yfz
theorem a8r {F:Fence}{α:Type}(slot sbox:Nat)(encV:α->Value){assign body:Code}{Q:Exit->Act->World->Prop}
 (hro:F.round=none) (h1:1<=n) {gf:Nat} {lb:Array Value} (hg:a.eval g= .func (.func gf) #[] lb) (hFg:F.fn gf) (eg:∀args w,(callFunc gf args).run P w= .ok (.enter gf args) w)
 {C:World->Nat->Prop} (hC:∀(W:World) (l k:Nat) (o o':Obj),W.heap[l]? =some o->a6q o=true->a6q o'=true->(C (W.putObj l o') k↔C W k)) (hCl:∀(W:World) (l:Nat) (o:Obj),W.heap[l]? =some o->a6q o=true->¬C W l)
 (hCa:∀(W:World) (k:Nat) (o:Obj),C (W.alloc o) k->a6q o=true->C W k) (hC0:∀k,C w k->k<w.heap.size)
 {n0:Nat} (hn0:n0<=w.heap.size) {Kx:List α->α->World->Prop} (hKp:∀pre x (W:World) (l:Nat) (o o':Obj),W.heap[l]? =some o->a6q o=true->a6q o'=true->Kx pre x W->Kx pre x (W.putObj l o')) {S:List α->Prop} {N:Nat} {w0:World} (hseq:d8k F (n-1) P gf lb (λx=> #[encV x]) C n0 Kx S N w0) (hb0:Below w0.heap.size w0 w)
 (I:List α->World->Prop) (hI:∀pre A A' row,I pre A->A.grownBy A' row->(∀r,row=some r->w.heap.size<=r/\¬C A r)->I pre A') (hIC:∀pre A A' row k,I pre A->A.grownBy A' row->(∀r,row=some r->¬C A r)->C A' k->C A k) (h0:I [] w) (Ip:List PanicEntry->World->Prop) (hfs:∀ch W,Ip ch W->∀fn,F.fn fn->∃x,P.funcs[fn]? =some x) (tb:TypeId) (bx:α->Array Value) (hKa:∀pre x (W:World) (o:Obj),Kx pre x W->Kx pre x (W.alloc o)) (hCs:∀pre W k,I pre W->C W k->k<W.heap.size)
 (hassign:∀(l:Nat) (pre:List α) (x:α) (W:World) (K:Act->World->Prop),Kx pre x W->(∀a',a'={ tmps:=(a.tmps.setIfInBounds slot (encV x)).setIfInBounds sbox (.pointer (some ⟨W.heap.size,0,none⟩)),defers:=[] }->K a' (W.alloc (.cells (bx x) tb)))->assign.wpIn (F.inRound l) (n-1-1) P (Exit.then K (λ_ _ _=>False)) { tmps:=a.tmps.setIfInBounds slot (encV x),defers:=[] } W)
 (hbody:∀(l:Nat) (pre:List α) (x:α) (W:World) (B:Nat),I pre W->Kx pre x W->Blk W B (bx x) tb->w.heap.size<=B->(∀k,C W k->k≠B)->pre.length<N->body.wpIn (F.inRound l) (n-1-1) P (λe a' W'=>(e= .normal/\KeepP C n0 W W'/\I (pre++[x]) W')\/∃ch,e= .panic ch/\a'.defers=[]/\KeepP C n0 W W'/\Ip ch W') ({ tmps:=(a.tmps.setIfInBounds slot (encV x)).setIfInBounds sbox (.pointer (some ⟨B,0,none⟩)),defers:=[] }:Act) W)
 (hpan:∀(D:Nat) (ch:List PanicEntry) (W:World),w.heap.size<=D->Ip ch W->W.heap[D]? =some (.deferred (some []))->Q (.panic ch) { a with defers:={ target:= .collected D,args:= #[] }::a.defers } W)
 (hdone:∀(D:Nat) (xs:List α) (W:World),w.heap.size<=D->S xs->I xs W->W.heap[D]? =some (.deferred (some []))->Q .normal { a with defers:={ target:= .collected D,args:= #[] }::a.defers } W) :
 (Code.rangeFunc g #[slot] assign body).wpIn F n P Q a w :=
 a9t hro h1 hg hFg eg hC hCl hCa hC0 hn0 hKp hseq hb0 (λ_=>rfl) I hI hIC h0 Ip hfs tb bx hKa hCs (λx B=>{ tmps:=(a.tmps.setIfInBounds slot (encV x)).setIfInBounds sbox (.pointer (some ⟨B,0,none⟩)),defers:=[] }) (λl pre x W K hx hK=>by simpa using hassign l pre x W K hx λa' ha=>ha▸hK) hbody hpan hdone
end
section
open Go Go.RowKit Go.Shelf Go.Lib
attribute [local go_sem] Oper.semAt_some
attribute [local go_sem ↓] Go.wp_at_zero Go.wp_at_succ
def pfS (s:Sh)(p:Pc):Bool×List Dt:=plF s p.x p.y p.id p.cls p.id
theorem d3e (i j:Int)(cls:ByteArray)(num:Int)(h:num<=999):(b8z i j cls num).length<=33:=by
 unfold b8z a1r;have h1:=a4c i j (a3f num.toNat) (a3w i j (a4u (plM cls)) 9) (a1a num.toNat).size;have h2:=a5d i j (a4u (plM cls)) 9;have h3:=a8l num.toNat oM;omega
theorem b2z (s:Sh)(p:Pc):(pfS s p).2.length<=33:=by
 unfold pfS plF;split
 ·rename_i h
  simp only[Bool.and_eq_true,decide_eq_true_eq]at h;exact Nat.le_trans (a4d _ _) (d3e _ _ _ _ h.1.2)
 ·simp
theorem a1p {W:World}{base:Nat}{e:TypeId}{s:Nat}{v:Value}{n:Nat}{xs:List Value}(h:W.ownsRow base e s v n xs):Frm v n:=by
 exact yjh
theorem c9u (s:Sh)(id x y wt di num:Int)(cls name:ByteArray)(w:World)(f0:fits s.ax)(f1:fits s.ay)(hid:fits id)(hcl:cls.size<=1000)(htab:Pow w) :
 Calls prog 23 #[shV s,.agg (plC id x y wt di cls name),.int .i64 num] w λe w'=>∃v,e= .returned (.tuple #[v,.bool (plF s x y id cls num).1])/\Lst dtE w'.heap.size w' v (plF s x y id cls num).2/\Frm v (plF s x y id cls num).2.length/\Below w.heap.size w w':=by
 obtain⟨⟨i,j,b⟩,hof⟩:∃p,ofS s x y=p:=⟨_,rfl⟩
 cases b with
 |false =>
  rw[c8z hof (.inl rfl)];refine(d2m s id x y wt di num i j cls name w f0 f1 hof).mono ?_;rintro e w'⟨rfl,hb⟩;exact⟨_,rfl,Lst.nil _ _ _,.inl rfl,hb⟩
 |true =>
  by_cases hr:num<1\/999<num
  ·rw[c8z hof (.inr hr)]
   refine(c1y s id x y wt di num i j cls name w f0 f1 hof hr).mono ?_;rintro e w'⟨rfl,hb⟩;exact⟨_,rfl,Lst.nil _ _ _,.inl rfl,hb⟩
  ·obtain⟨n,rfl⟩:∃n:Nat,num=n:=⟨num.toNat,oM⟩
   rw[c9a hof oM oM];unfold b8z;rw[Int.toNat_natCast];obtain⟨hm,hsum⟩:=d5g cls;have hs:=a4h (b1e hof).1;have hit:∀W,Below w.heap.size w W->Calls prog 65 #[.int .i64 (n:Nat)] W λe W'=>e= .returned (.string (a7c n))/\Below W.heap.size W W':=λW hW=>by
    refine(Tryz.strconv_Itoa (n:Nat) oM oM W (htab.below hW)).mono ?_;rintro e W'⟨rfl,k,os,rfl⟩;refine⟨?_,?_⟩
    ·unfold a7c Lib.itoa
     rw[if_neg oM,Int.toNat_natCast]
    ·refine⟨rfl,rfl,rfl,?_,λq hq=> ?_⟩
     ·show W.heap.size<=(W.heap++os).size
      rw[Array.size_append];omega
     ·show(W.heap++os)[q]? =W.heap[q]?
      rw[Array.getElem?_append_left hq]
   have hwr:∀W,Calls prog 64 #[.string (a7c n)] W λe W'=>e= .returned (.tuple #[.string (a1a n),.int .i64 0])/\Below W.heap.size W W':=λW=>c5n (a7c n) (b2a n) (by rw[a4z];have:=a2z 2 n oM;omega) W
   have hdots:∀k (h:k<(a1a n).size) W,Calls prog 66 #[.int .u8 ((a1a n)[k]).toNat] W λe W'=>e= .returned (.agg #[.bool (a3f n k 0),.bool (a3f n k 1),.bool (a3f n k 2),.bool (a3f n k 3),.bool (a3f n k 4),.bool (a3f n k 5)])/\Below W.heap.size W W':=λk hk W=>by
    rw[a4m n k hk 0,a4m n k hk 1,a4m n k hk 2,a4m n k hk 3,a4m n k hk 4,a4m n k hk 5];exact d7w _ (b2p n k hk) W
   refine(c8y s id x y wt di n i j cls name (a7c n) (a1a n) (a3f n) (plM cls) w f0 f1 hof hid oM oM oM hm hsum (by have:=a8l n oM;omega) hit hwr hdots (c1x i j id _ n)).mono ?_;have hkeys:∀p,p∈(a6e i j id (a4u (plM cls)) (a3f n) (a1a n).size).map (·.1)↔p∈a1r i j (a4u (plM cls)) (a3f n) (a1a n).size:=λp=>by
    rw[a9k,a8k];simp
   have hpl:=b0c i j (a4u (plM cls)) n oM;rintro e w'⟨hb,⟨h,v,base,rfl,-,hrow⟩|⟨⟨p,hp,h⟩,rfl⟩⟩
   ·have hall:∀p∈a1r i j (a4u (plM cls)) (a3f n) (a1a n).size,onS s p.1 p.2=true:=λp hp=>h p ((hkeys p).2 hp)
    rw[if_pos (List.all_eq_true.2 hall)];rw[a9k,<-b8x hall]at hrow;exact⟨v,rfl,a0h a8a hrow (by have:=a4d id (a1r i j (a4u (plM cls)) (a3f n) (a1a n).size);simp only;omega),a1p hrow,hb⟩
   ·rw[if_neg (λhc=>by have:=List.all_eq_true.1 hc p ((hkeys p).1 hp);rw[h]at this;cases this)]
    exact⟨_,rfl,Lst.nil _ _ _,.inl rfl,hb⟩
abbrev b7q (ev fv wv pv:Value):Value:= .agg #[ev,fv,wv,pv]
abbrev d8l (s:Sh)(x:Pc×Value):Value:= .agg #[.int .i64 x.1.id,.int .i64 x.1.x,.int .i64 x.1.y,.string x.1.cls,.string x.1.nm,.int .i64 x.1.wt,.int .i64 x.1.ds,x.2,.bool (pfS s x.1).1]
def KxC (s:Sh)(ps:List Pc)(pre:List (Pc×Value))(x:Pc×Value)(W:World):Prop :=
 (∃rs,ps=pre.map Prod.fst++x.1::rs)/\Lst dtE W.heap.size W x.2 (pfS s x.1).2/\Frm x.2 (pfS s x.1).2.length
theorem KxC.put {s:Sh}{ps:List Pc}{pre:List (Pc×Value)}{x:Pc×Value}{W:World}{l:Nat}{o o':Obj}(hl:W.heap[l]? =some o)(ho:o.isCells=false)(ho':o'.isCells=false)(h:KxC s ps pre x W):KxC s ps pre x (W.putObj l o'):=by
 obtain⟨h1,⟨a,cap,e,c1,c2,c3⟩,h3⟩:=h;refine⟨h1,⟨a,cap,e,c1,c2,λj hj=> ?_⟩,h3⟩;obtain⟨b,off,rfl,hb,hc⟩:=c3 j hj;refine⟨b,off,rfl,by simpa using hb,λi hi=> ?_⟩;rw[<-hc i hi];unfold World.cell?;by_cases hbl:b=l
 ·subst hbl
  have h0:=hc i hi;unfold World.cell? at h0;simp only[hl]at h0
  cases o <;> simp_all [Obj.isCells]
 ·simp only[World.putObj_heap_other hbl]
theorem a4t (s:Sh)(ev fv wv pv:Value)(w:World) :
 Calls prog 35 #[b7q ev fv wv pv,shV s] w λe w'=>e= .returned (.func (.func 84) #[] #[.pointer (some ⟨w.heap.size,0,none⟩),.pointer (some ⟨w.heap.size+1,0,none⟩)])/\Blk w' w.heap.size #[ev,fv,wv,pv] 37/\Blk w' (w.heap.size+1) #[.int .i64 s.ax,.int .i64 s.ay,.int .i64 s.st,.int .i64 s.w,.int .i64 s.h,.int .i64 s.g] 28/\Below w.heap.size w w':=by
 obtain⟨ax,ay,st,sw,sh,sg⟩:=s;go_enter func35,ntmps35;have hmf:∀(fn:Fn) (first cap:Array Value) (w:World),(Instr.makeFunc fn first cap).run prog w= .ok (.func fn first cap) w:=λ_ _ _ _=>rfl
 go_wp2_with fail;go_ret;have k2:=Blk.new (w.alloc (.cells #[ev,fv,wv,pv] 37)) #[.int .i64 ax,.int .i64 ay,.int .i64 st,.int .i64 sw,.int .i64 sh,.int .i64 sg] 28;rw[World.size_alloc]at k2;exact⟨rfl,(Blk.new _ _ _).alloc _,k2,zC⟩
theorem b4x {W W':World}{base:Nat}{e:TypeId}{s:Nat}{v:Value}{n:Nat}{xs:List Value}(h:W.ownsRow base e s v n xs)(hs:∀g,v.ownBlock=some g->g<W.heap.size->W'.heap[g]? =W.heap[g]?):W'.ownsRow base e s v n xs:=by
 obtain⟨h1,h2|⟨g,cap,cur,rfl,h3,h4,h5⟩⟩:=h
 ·exact⟨h1,.inl h2⟩
 ·exact⟨h1,.inr ⟨g,cap,cur,rfl,h3,(hs g rfl (Array.getElem?_eq_some_iff.1 h4).1).trans h4,h5⟩⟩
theorem d5i {W:World}{base:Nat}{e:TypeId}{s:Nat}{v:Value}{n:Nat}{xs:List Value}(h:W.ownsRow base e s v n xs){g:Nat}(hg:v.ownBlock=some g):base<=g/\g<W.heap.size:=by
 rcases h.2 with⟨rfl,-⟩|⟨g',cap,cur,rfl,h3,h4,-⟩
 ·cases hg
 ·cases hg
  exact⟨h3,(Array.getElem?_eq_some_iff.1 h4).1⟩
structure ICs (C:World->Nat->Prop)(n0:Nat)(w:World)(Bm Bs:Nat)(mc sc:Array Value)(base:Nat)(v:Value)(ps:List Pc)(W:World):Prop where
 bm:Blk W Bm mc 37
 bs:Blk W Bs sc 28
 row:W.ownsRow base 66 7 v ps.length (ps.flatMap plE.enc)
 nm:¬C W Bm
 ns:¬C W Bs
 nr:∀g,v.ownBlock=some g->¬C W g
 bel:Below n0 w W
section
variable {C:World->Nat->Prop}{n0:Nat}{w:World}{Bm Bs:Nat}{mc sc:Array Value}{base:Nat}{v:Value}{ps:List Pc}{A B:World}
theorem ICs.keep (h:ICs C n0 w Bm Bs mc sc base v ps A)(hk:KeepP C n0 A B):ICs C n0 w Bm Bs mc sc base v ps B:=by
 have hn:∀g,g<A.heap.size->¬C A g->¬C B g:=λg hg hc hb=>(hk.k.mine g hb).elim hc (λh=>by omega)
 exact⟨(hk.k.same _ h.bm.lt h.nm).trans h.bm,(hk.k.same _ h.bs.lt h.ns).trans h.bs,b4x h.row λg hg hlt=>hk.k.same g hlt (h.nr g hg),hn _ h.bm.lt h.nm,hn _ h.bs.lt h.ns,λg hg=>hn g (d5i h.row hg).2 (h.nr g hg),h.bel.trans hk.b⟩
theorem ICs.below (h:ICs C n0 w Bm Bs mc sc base v ps A)(hb:Below A.heap.size A B)(hC:∀k,C B k->C A k)(hn:n0<=A.heap.size):ICs C n0 w Bm Bs mc sc base v ps B :=
 ⟨h.bm.below hb h.bm.lt,h.bs.below hb h.bs.lt,b4x h.row λg hg hlt=>hb.block g hlt,λhc=>h.nm (hC _ hc),λhc=>h.ns (hC _ hc),λg hg hc=>h.nr g hg (hC _ hc),h.bel.trans (hb.mono hn)⟩
end
theorem b6n (n:Nat)(hn:1<=n)(s:Sh)(f0:fits s.ax)(f1:fits s.ay)(ev fv wv pv:Value)(l:List Pc)(hl:l.length<=100)(hok:∀p∈l,PcOk p/\p.cls.size<=1000)(C:World->Nat->Prop)(n0:Nat)(w:World)(Bm Bs:Nat)
 (hm:Blk w Bm #[ev,fv,wv,pv] 37) (hs:Blk w Bs #[.int .i64 s.ax,.int .i64 s.ay,.int .i64 s.st,.int .i64 s.w,.int .i64 s.h,.int .i64 s.g] 28) (hL:Lst plE w.heap.size w pv l) (hF:Frm pv l.length) (hn0:n0<=w.heap.size)
 (hnc:∀W k,Below w.heap.size w W->C W k->k≠Bm/\k≠Bs) (hPow:∀W,Below n0 w W->Pow W) :
 d8k Fence.wide n prog 84 #[.pointer (some ⟨Bm,0,none⟩),.pointer (some ⟨Bs,0,none⟩)] (λx=> #[d8l s x]) C n0 (KxC s (a0t l)) (λxs=>xs.map Prod.fst=a0t l) 101 w:=by
 intro ly J Jp W hB hJ hCb hC0 hY h0;have hokS:∀p∈a0t l,PcOk p/\p.cls.size<=1000:=λp hp=>hok p ((a1c l).mem_iff.1 hp)
 have hlS:(a0t l).length=l.length:=(a1c l).length_eq;obtain⟨ps,hps⟩:=zE (a0t l);have hLW:=hL.up hB;have hO:=a7s ev fv wv pv l W hLW hF hl;rw[hps]at hO hokS hlS hY ⊢;have bmW:=hm.below hB hm.lt;have bsW:=hs.below hB hs.lt;have nmW:¬C W Bm:=λhc=>(hnc W Bm hB hc).1 rfl
 have nsW:¬C W Bs:=λhc=>(hnc W Bs hB hc).2 rfl
 have hbW:Below n0 w W:=hB.mono hn0;have hWs:=hB.size;clear hL hLW hm hs hnc hF hps;obtain⟨c0,c1,c2,c3⟩:=zN4 bmW;refine callsIn_wide.2 ?_;go_enter func84,ntmps84;go_upto_block 0 with(first
  |(go_at_call 44;refine hO.mono ?_;rintro e W1⟨v,rfl,hr1,hb1⟩;rw[<-hlS]at hr1;obtain⟨va,vc,rfl,hvc⟩:=(a0h a4f hr1 oM).form))
 have hW1s:=hb1.size;have hC1:∀k,C W1 k->C W k:=λk=>hCb [] W W1 none k h0 (a2f none hb1) vM
 have hI1:ICs C n0 w Bm Bs _ _ W.heap.size (.slice va ps.length vc) ps W1:=⟨bmW.below hb1 bmW.lt,bsW.below hb1 bsW.lt,hr1,λhc=>nmW (hC1 _ hc),λhc=>nsW (hC1 _ hc),λg hg hc=>by have:=hC0 _ (hC1 _ hc);have:=(d5i hr1 hg).1;omega,hbW.trans (hb1.mono oM)⟩;have hJ1:J [] W1:=hJ [] W W1 none h0 (a2f none hb1) vM;clear hO hr1 hC1 bmW bsW nmW nsW hbW c0 c1 c2 c3 h0 hC0 hb1;go_wp2_with fail;go_loopw [11] (λkk wr=>∃(k:Nat) (pre:List (Pc×Value)),k<=ps.length/\kk= .int .i64 (k:Nat)/\pre.map Prod.fst=ps.take k/\J pre wr/\ICs C n0 w Bm Bs #[ev,fv,wv,pv] #[.int .i64 s.ax,.int .i64 s.ay,.int .i64 s.st,.int .i64 s.w,.int .i64 s.h,.int .i64 s.g] W.heap.size (.slice va ps.length vc) ps wr/\W.heap.size<=wr.heap.size) (λkk _=>ps.length-(intOf kk).toNat)
 case atStart=>exact⟨0,[],Nat.zero_le _,rfl,by simp,hJ1,hI1,hW1s⟩
 case round =>
  clear hJ1 hI1;obtain⟨k,pre,hk,rfl,hpre,hJk,hI,hzr⟩:=hrel;by_cases hlt:k<ps.length
  ·have hltI:(k:Int)<(ps.length:Int):=oM
   have hLr:=a0h a4f hI.row oM;obtain⟨b,off,cap,hv,-,hbl,hc⟩:=hLr.some_ oM;simp only[Value.slice.injEq,true_and]at hv;obtain⟨rfl,rfl⟩:=hv;obtain⟨p,hp⟩:=zE (ps[k]);have hck:=hc k hlt;rw[hp]at hck;obtain⟨hpo,hpc⟩:=hokS p (hp▸List.getElem_mem hlt);have hsplit:ps=pre.map Prod.fst++p::ps.drop (k+1):=by
    rw[hpre,<-hp,<-List.drop_eq_getElem_cons hlt,List.take_append_drop]
   have hprel:pre.length=k:=by
    have:=congrArg List.length hpre;rw[List.length_map,List.length_take]at this;omega
   have hnext:(pre++[(p,(.slice none 0 0:Value))]).map Prod.fst=ps.take (k+1):=by
    rw[List.map_append,hpre,List.take_add_one,List.getElem?_eq_getElem hlt,hp];rfl
   have d0:wr.cell? ⟨b,off+k*7,none⟩=some (.int .i64 p.id):=hck 0 (show 0<7 by decide);have d1:wr.cell? ⟨b,off+k*7+1,none⟩=some (.int .i64 p.x):=hck 1 (show 1<7 by decide);have d2:wr.cell? ⟨b,off+k*7+2,none⟩=some (.int .i64 p.y):=hck 2 (show 2<7 by decide);have d3:wr.cell? ⟨b,off+k*7+3,none⟩=some (.string p.cls):=hck 3 (show 3<7 by decide);have d4:wr.cell? ⟨b,off+k*7+4,none⟩=some (.string p.nm):=hck 4 (show 4<7 by decide);have d5:wr.cell? ⟨b,off+k*7+5,none⟩=some (.int .i64 p.wt):=hck 5 (show 5<7 by decide);have d6:wr.cell? ⟨b,off+k*7+6,none⟩=some (.int .i64 p.ds):=hck 6 (show 6<7 by decide);obtain⟨s0,s1,s2,s3,s4,s5⟩:=zN6 hI.bs;obtain⟨id,x,y,cls,nm,wt,ds⟩:=p;have hPl:=c9u s id x y wt ds id cls nm;obtain⟨r,hr⟩:=zE (plF s x y id cls id);have hpf:pfS s ⟨id,x,y,cls,nm,wt,ds⟩=r:=hr;simp only[hr]at hPl;obtain⟨on,dl⟩:=r;simp only at hPl d0 d1 d2 d3 d4 d5 d6;have hidf:=hpo.id;simp only at hidf hpc;have hPw:∀W',Below n0 wr W'->Pow W':=λW' h=>hPow W' (hI.bel.trans h)
   clear hc hck hLr hp hr hpo;go_upto_region 4 with(first
    |(go_at_call 23;(with_reducible refine(hPl _ f0 f1 hidf hpc (hPw _ (((zR _ _).alloc (yR _) _).mono oM))).mono ?_);rintro e W4⟨vd,rfl,hd4,hfd4,hb4⟩))
   have hs4:=hb4.size;rw[World.size_alloc]at hs4;have hb5:Below wr.heap.size wr W4:=((zR _ _).alloc (yR _) _).trans (hb4.mono (by rw[World.size_alloc];omega));have kp:Blk W4 wr.heap.size #[.int .i64 id,.int .i64 x,.int .i64 y,.string cls,.string nm,.int .i64 wt,.int .i64 ds] 66:=(Blk.new wr _ _).below hb4 (by rw[World.size_alloc];omega);have hg5:wr.grownBy W4 none:=a2f none hb5;have hJ4:J pre W4:=hJ pre wr W4 none hJk hg5 vM;have hI4:=hI.below hb5 (λk=>hCb pre wr W4 none k hJk hg5 vM) oM;have hKx:KxC s ps pre (⟨id,x,y,cls,nm,wt,ds⟩,vd) W4:=by
    refine⟨⟨_,hsplit⟩,?_,?_⟩
    ·show Lst dtE W4.heap.size W4 vd (pfS s ⟨id,x,y,cls,nm,wt,ds⟩).2
     rw[hpf];exact hd4
    ·show Frm vd (pfS s ⟨id,x,y,cls,nm,wt,ds⟩).2.length
     rw[hpf];exact hfd4
   obtain⟨fn,tmps,assign,body,hy,hRd⟩:=hY pre (⟨id,x,y,cls,nm,wt,ds⟩,vd) W4 hJ4 hKx oM;simp only[d8l,hpf]at hy;obtain⟨a4,n4,c4,rfl,-⟩:∃a n c,vd= .slice a n c/\n=dl.length:=by
    obtain⟨a,c,h,-⟩:=hd4.form;exact⟨a,_,c,h,rfl⟩
   obtain⟨p0,p1,p2,p3,p4,p5,p6⟩:=zN7 kp;clear hPl hb4 kp hKx hd4 hfd4 hJ4 hI hJk hg5;refine(wpIn_wide (n:=n)).1 ?_;gi_wp2;refine hRd.mono ?_;rintro e W5 (⟨rfl,hJ5,hk5⟩|⟨ch,rfl,hp⟩)
   ·gi_wp2
    go_wp2_with fail;go_roundw
    case rel =>
     have:=hk5.k.size;exact⟨k+1,pre++[(⟨id,x,y,cls,nm,wt,ds⟩,.slice a4 n4 c4)],oM,by go_num,by rw[List.map_append]at hnext ⊢;exact hnext,hJ5,hI4.keep hk5,oM⟩
    case measure=>simp[intOf];omega
   ·gi_wp2
    exact⟨rfl,.inr ⟨ch,rfl,hp⟩⟩
  ·obtain rfl:k=ps.length:=oM
   have hge:¬(ps.length:Int)<(ps.length:Int):=oM;go_wp2_with fail;go_end0;exact .inl ⟨⟨_,rfl⟩,pre,by rw[hpre,List.take_length],hJk⟩
section
variable {P:Program}{α:Type}{E:El α}{st:TypeId}{F:Fence}{n:Nat}
theorem b6o (w:World)(t ty e:TypeId)(i:TypeInfo)(ht:P.underlying t=some (.slice e))(hi:P.info? e=some i):(Builtin.append_ #[t,t] ty #[.slice none 0 0,.slice none 0 0]).run P w= .ok (.slice none 0 0) w:=by
 have hn:(Builtin.firstCells i.size 0 (.slice none 0 0)).run P w= .ok #[] w:=run_firstCells_none _ _ _ _ _;simp[Builtin.append_,run_underlying ht,sizeOf,typeInfo,hi,Builtin.lenOf,hn]
theorem El.append_all (hE:E.Ok)(hI:E.In P st)(W:World)(base:Nat)(v xv:Value)(l l2:List α)(ty:TypeId)(hv:W.ownsRow base E.t E.s v l.length (l.flatMap E.enc)){n0:Nat}(hx:Lst E n0 W xv l2)(hf:Frm xv l2.length)(hl:l.length+l2.length<=100000)(hb:base<=W.heap.size) :
 ∃v' W',(Builtin.append_ #[st,st] ty #[v,xv]).run P W= .ok v' W'/\W'.ownsRow base E.t E.s v' (l++l2).length ((l++l2).flatMap E.enc)/\W.grownBy W' v.ownBlock/\Below base W W'/\(v'.ownBlock=v.ownBlock\/v'.ownBlock=some W.heap.size):=by
 obtain⟨i0,z,hi0,hz0,hz1,hz2,hz3⟩:=hI.info;rcases hf with rfl|⟨b,off,cap,rfl⟩
 ·obtain rfl:l2=[]:=by
   obtain⟨a,c,h,-⟩:=hx.form;simp only[Value.slice.injEq]at h;exact List.eq_nil_of_length_eq_zero h.2.1.symm
  by_cases hn:v= .slice none 0 0
  ·subst hn
   exact⟨_,W,b6o W st ty E.t i0 hI.under hi0,by rw[List.append_nil];exact hv,⟨rfl,rfl,rfl,yR _,λ_ _ _=>rfl⟩,⟨rfl,rfl,rfl,yR _,λ_ _=>rfl⟩,.inl rfl⟩
  ·have hsm:∃g c,v= .slice (some ⟨g,0,none⟩) l.length c:=by
    rcases hv.2 with⟨e,-⟩|⟨g,c,cur,e,-⟩
    ·exact absurd e hn
    ·exact⟨g,c,e⟩
   obtain⟨v',W',hr,h2,h3,h4,-⟩:=El.append_join hE hI W base v (.slice none 0 0) l [] ty hv hsm hx (.inl rfl) hl hb;obtain⟨g,c,rfl⟩:=hsm;have hs:Src P i0.size st (.slice none 0 0) 0 [] W:=Src.ofNil W hI.under 0;have hlc:l.length+0<=c:=by
    exact yej
   have hr2:=run_append_room_src (P:=P) W st st ty E.t i0 hI.under hi0 g 0 l.length c (.slice none 0 0) 0 [] hs hlc vM vM;rw[hr]at hr2;simp only[Result.ok.injEq]at hr2;exact⟨v',W',hr,h2,h3,h4,.inl (by rw[hr2.1];rfl)⟩
 ·have hnews:∀j u,(l2.flatMap E.enc)[j]? =some u->W.cell? ((⟨b,off,none⟩:Addr).add j)=some u:=λj u hj=>by
   exact yih
  obtain⟨v',W',hr,hown,hg,-,h5⟩:=run_append_own_at (P:=P) W base st ty E.t i0 _ E.s i0.bytes hI.under hi0 hz0 hz1 rfl hz3 hE.pos _ l.length _ hv ⟨b,off,none⟩ l2.length cap (l2.flatMap E.enc) (a0v hE l2) hnews (a4g hE l2) oK (Nat.le_trans (Nat.mul_le_mul (show l.length+l2.length<=100000 by omega) hz2) jM) hb;refine⟨v',W',hr,?_,hg,a1n hg hb (λk e=>(hv.lt k e).1),h5⟩;exact yir
theorem El.allIn (hE:E.Ok)(hI:E.In P st){ops:Array Oper}{rest:List Oper}{o:Oper}{a:Act}{w:World}{Q:Exit->Act->World->Prop}(hgd:o.guard=none)(s x:Operand)
 (ho:o.op= .call { callee:= .builtin .append,args:= #[s,x],argTypes:= #[st,st] }) (base:Nat) {v:Value} (hs:a.eval s=v) (l:List α) (hv:w.ownsRow base E.t E.s v l.length (l.flatMap E.enc)) {xv:Value} (l2:List α) (hxv:a.eval x=xv) {n0:Nat} (hx:Lst E n0 w xv l2) (hf:Frm xv l2.length) (hl:l.length+l2.length<=100000) (hb:base<=w.heap.size)
 (hab:∀f,o.about P w a.eval=some f->F.fn f)
 (h:∀v' w',w'.ownsRow base E.t E.s v' (l++l2).length ((l++l2).flatMap E.enc)->w.grownBy w' v.ownBlock->Below base w w'->(v'.ownBlock=v.ownBlock\/v'.ownBlock=some w.heap.size)->wpListIn F n P ops Q rest (a.put o.dst v') w') :
 wpListIn F n P ops Q (o::rest) a w:=by
 obtain⟨v',w',hr,h2,h3,h4,h5⟩:=El.append_all hE hI w base v xv l l2 o.type hv hx hf hl hb;refine wpListIn_plain hgd λK hK=> ?_
 unfold Oper.wpIn;refine⟨hab,?_⟩;unfold Oper.semAt execOp
 cases hro:F.round <;>
 ·simp only[ho,resolve,invoke,builtin,Sem.run_bind,Sem.run_pure,Result.andThen_ok,List.map_toArray,List.map_cons,List.map_nil,hs,hxv,hr]
  exact hK _ _ (h v' w' h2 h3 h4 h5)
end
end
section
open Go Go.Sort
variable{g id:Int}{l:List Dt}{out:List Pc}{k:Nat}{p:Pc}
theorem c9v (l:List Pc):Asc (ltOf a1j) (a0t l)/\Stb (ltOf a1j) l (a0t l):=by
 obtain⟨ho,ha,hs⟩:=a2j (lt:=ltOf a1j) swoP l.toArray (Nat.zero_le l.length) vM;have e1:=b6m l.toArray;have e2:=b6m (insertionSort (ltOf a1j) l.toArray 0 l.length);rw[ho.1]at e2;simp only[List.size_toArray]at e1 e2;unfold a0t;rw[<-e2];rw[e1]at hs;exact⟨c2k.2 ha,hs⟩
def a2b (p:Pc)(out:List Pc):Nat->Nat
 |0=>0
 |k+1=>match out[k]? with
  |some q=>if ltOf a1j p q then a2b p out k else k+1
  |none=>k+1
def d5j (p:Pc)(out:List Pc):List Pc:=out.take (a2b p out out.length)++p::out.drop (a2b p out out.length)
def a1w (l:List Pc):List Pc:=l.foldl (λout p=>d5j p out) []
theorem b3a (p:Pc)(out:List Pc):∀k,a2b p out k<=k
 |0=>yR _
 |k+1=>by
  unfold a2b;split
  ·split
   ·exact Nat.le_succ_of_le (b3a p out k)
   ·exact yR _
  ·exact yR _
theorem a7t (h:k<out.length)(hl:ltOf a1j p out[k]=true):a2b p out (k+1)=a2b p out k:=by
 conv=>lhs;unfold a2b
 rw[List.getElem?_eq_getElem h];simp only[hl,if_true]
theorem a7u (h:k<out.length)(hl:ltOf a1j p out[k]=false):a2b p out (k+1)=k+1:=by
 conv=>lhs;unfold a2b
 rw[List.getElem?_eq_getElem h];simp only[hl,Bool.false_eq_true,if_false]
theorem a8s (p:Pc)(out:List Pc):∀k,k<=out.length->∀j (hj:j<out.length),a2b p out k<=j->j<k->ltOf a1j p out[j]=true
 |0,_,j,hj,_,h=>by omega
 |k+1,hk,j,hj,h1,h2=>by
  have hkl:k<out.length:=hk
  cases hl:ltOf a1j p out[k]with
  |true =>
   rw[a7t hkl hl]at h1;rcases Nat.lt_or_ge j k with h|h
   ·exact a8s p out k oM j hj h1 h
   ·obtain rfl:j=k:=oM
    exact hl
  |false =>
   rw[a7u hkl hl]at h1;omega
theorem b0m (p:Pc)(out:List Pc):∀k,k<=out.length->a2b p out k=0\/∃h:a2b p out k-1<out.length,ltOf a1j p out[a2b p out k-1]=false
 |0,_=> .inl rfl
 |k+1,hk=>by
  have hkl:k<out.length:=hk
  cases hl:ltOf a1j p out[k]with
  |true =>
   rw[a7t hkl hl];exact b0m p out k oM
  |false =>
   rw[a7u hkl hl];exact .inr ⟨hkl,hl⟩
theorem d3f (h:Asc (ltOf a1j) out):Asc (ltOf a1j) (d5j p out)/\Stb (ltOf a1j) (out++[p]) (d5j p out):=by
 obtain⟨n,hn⟩:=zE (a2b p out out.length);have hle:=b3a p out out.length;have h1:=a8s p out out.length (yR _);have h2:=b0m p out out.length (yR _);unfold d5j;rw[hn]at hle h1 h2 ⊢;have hb:∀x∈out.drop n,ltOf a1j p x=true:=λx hx=>by
  obtain⟨j,hj,rfl⟩:=List.getElem_of_mem hx;rw[List.length_drop]at hj;rw[List.getElem_drop];exact h1 (n+j) oM oM oM
 have ha:∀x∈out.take n,ltOf a1j p x=false:=λx hx=>by
  rcases h2 with h2|⟨h3,h4⟩
  ·rw[h2]at hx
   simp at hx
  ·obtain⟨j,hj,rfl⟩:=List.getElem_of_mem hx
   rw[List.length_take]at hj;rw[List.getElem_take];rcases Nat.lt_or_ge j (n-1)with h|h
   ·have h5:ltOf a1j out[n-1] out[j]=false:=(List.pairwise_iff_getElem.1 ‹Asc (ltOf a1j) out›) j (n-1) oM h3 h
    exact swoP.ntrans _ _ _ h4 h5
   ·have e:j=n-1:=oM
    subst e;exact h4
 have hs:out=out.take n++out.drop n:=(List.take_append_drop n out).symm;have hA:=h;unfold Asc at hA ⊢;rw[hs,List.pairwise_append]at hA;obtain⟨g1,g2,g3⟩:=hA;refine⟨?_,?_⟩
 ·rw[List.pairwise_append]
  refine⟨g1,List.pairwise_cons.2 ⟨λx hx=> ?_,g2⟩,λa hx b hy=> ?_⟩
  ·cases h6:ltOf a1j x p with
   |false=>rfl
   |true=>have:=swoP.trans _ _ _ h6 (hb x hx);rw[swoP.irrefl]at this;cases this
  ·rcases List.mem_cons.1 hy with rfl|hy
   ·exact ha a hx
   ·exact g3 a hx b hy
 ·have e:out++[p]=out.take n++(out.drop n++[p]):=by rw[<-List.append_assoc,<-hs]
  rw[e];refine(Stb.refl _).append ?_;exact Stb.swap swoP (V:=[p]) (λu hu v hv=>by rw[List.mem_singleton]at hv;subst hv;exact hb u hu)
theorem b4y (l:List Pc):a1w l=a0t l:=by
 have h:Asc (ltOf a1j) (a1w l)/\Stb (ltOf a1j) l (a1w l):=by
  refine b1d (Q:=λl=>Asc (ltOf a1j) (a1w l)/\Stb (ltOf a1j) l (a1w l)) ⟨List.Pairwise.nil,Stb.refl _⟩ ?_ l;intro l x ⟨h1,h2⟩;unfold a1w at h1 h2 ⊢;rw[List.foldl_append];obtain⟨g1,g2⟩:=d3f (p:=x) h1;exact⟨g1,(h2.append (Stb.refl [x])).trans g2⟩
 obtain⟨h1,h2⟩:=c9v l;exact Asc.unique swoP h.1 h1 (h.2.symm.trans h2)
theorem b9l (l:List Pc)(x:Pc):a1w (l++[x])=d5j x (a1w l):=by
 unfold a1w;rw[List.foldl_append];rfl
theorem c2p (l:List Pc):(a1w l).length=l.length:=by
 rw[b4y,(a1c l).length_eq]
/-! dots that are too near -/
def nrP (g:Int)(l:List Dt)(id:Int)(a:Dt):Bool:= !(decide (a.k=3)&&decide (a.i=id))&&decide (a4w [a] l<g)
theorem c9w (hg:g<=4){a b:Dt}:apD a b<g↔(max (a.x-b.x) (b.x-a.x)<g/\max (a.y-b.y) (b.y-a.y)<g):=by
 unfold apD apF;constructor
 ·intro h
  repeat' split at h
  all_goals omega
 ·rintro⟨h1,h2⟩
  exact yhs
theorem c9x (hg:g<=4)(a:Dt)(l:List Dt):a4w [a] l<g↔∃b∈l,apD a b<g:=by
 have h1:a4w [a] l<g↔a4w [a] l<=g-1:=oM;rw[h1,c9j];constructor
 ·rintro(h|⟨d,hd,e,he,h⟩)
  ·omega
  ·rw[List.mem_singleton]at hd
   subst hd;exact⟨e,he,oM⟩
 ·rintro⟨b,hb,h⟩
  exact .inr ⟨a,by simp,b,hb,oM⟩
theorem d8m (hg:g<=4)(hl:∀b∈l,b.k=3/\b.i=id)(a:Dt):nrP g l id a=l.any (b5s g a):=by
 unfold nrP;rw[Bool.eq_iff_iff];simp only[Bool.and_eq_true,Bool.not_eq_true',Bool.and_eq_false_iff,decide_eq_false_iff_not,decide_eq_true_eq,List.any_eq_true];rw[c9x hg];constructor
 ·rintro⟨h1,b,hb,h2⟩
  obtain⟨h3,h4⟩:=hl b hb;refine⟨b,hb,?_⟩;obtain⟨h5,h6⟩:=(c9w hg).1 h2;unfold b5s;simp only[Bool.and_eq_true,Bool.or_eq_true,decide_eq_true_eq];exact⟨h1.imp (λh=>by rw[h3];exact h) (λh=>by rw[h4];exact h),h5,h6⟩
 ·rintro⟨b,hb,h2⟩
  obtain⟨h3,h4⟩:=hl b hb;unfold b5s at h2;simp only[Bool.and_eq_true,Bool.or_eq_true,decide_eq_true_eq]at h2;obtain⟨h1,h5,h6⟩:=h2;rw[h3,h4]at h1;exact⟨h1,b,hb,(c9w hg).2 ⟨h5,h6⟩⟩
theorem b9m {α:Type}(f:α->Bool)(l:List α):l.find? f=(l.findIdx? f).bind λk=>l[k]? :=by
 induction l with
 |nil=>rfl
 |cons x l ih =>
  rw[List.find?_cons,List.findIdx?_cons]
  cases hf:f x with
  |true=>simp
  |false =>
   simp only[Bool.false_eq_true,if_false];rw[ih]
   cases l.findIdx? f <;> simp
theorem c9y (hg:g<=4)(hl:∀b∈l,b.k=3/\b.i=id)(D:List Dt):a6f g D l=(D.findIdx? (nrP g l id)).bind λk=>D[k]? :=by
 unfold a6f;rw[show(λa=>l.any (b5s g a))=nrP g l id from funext λa=>(d8m hg hl a).symm];exact b9m _ _
end
end Go.Proofs.YtfocdbjceedagaaGreatDoor
