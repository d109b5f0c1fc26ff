/-
  Parts.
-/
import Derived.Test.YtfocdbjceedagaaGreatDoorMar
set_option linter.unusedVariables false
set_option linter.unusedSimpArgs false
set_option maxHeartbeats 8000000
set_option maxRecDepth 100000
namespace Go.Proofs.YtfocdbjceedagaaGreatDoor
open Tryz
section
open Go.RowKit Go.Shelf Go.Lib Go.Sort
attribute [local go_sem] Oper.semAt_some
attribute [local go_sem ↓] Go.wp_at_zero Go.wp_at_succ
variable{c:Int}{N blk n off p q:Nat}{x y:Pc}{W w:World}
def swapG (W:World)(blk off p q:Nat)(d:Array Pc):World:=(W.setCells blk (off+p*7) (plE.enc d[q]!)).setCells blk (off+q*7) (plE.enc d[p]!)
theorem c9p {d:Array Pc}(h:RowP W blk off d)(hp:p<d.size)(hq:q<d.size):RowP (swapG W blk off p q d) blk off (swp d p q):=by
 have b:∀x,x<d.size->x*7+7<=d.size*7:=λx hx=>by omega
 have h1:=holds_setCells_c h (p*7) (plE.enc d[q]!) (by rw[size_flatK];exact b p hp);have h2:=holds_setCells_c h1 (q*7) (plE.enc d[p]!) (by rw[size_setMany,size_flatK];exact b q hq);unfold RowP HoldsK;rw[<-setMany_swp plE.enc 7 (λ_=>rfl) d p q hp hq];exact h2
theorem SoW.swapG {d:Array Pc}(h:SoW w blk off N n d W)(hp:p<n)(hq:q<n):SoW w blk off N n (swp d p q) (swapG W blk off p q d) :=
 ⟨c9p h.row (by rw[h.sz];exact hp) (by rw[h.sz];exact hq),RowB.setCells _ _ _ (RowB.setCells _ _ _ h.rb),a2e h.gr (a2e (a1u _ _ _ _) (a1u _ _ _ _)),by rw[size_swp];exact h.sz⟩
def SoX (w:World)(blk off N n:Nat)(R:Array Pc->Prop)(W:World):Prop:=∃d,SoW w blk off N n d W/\R d
theorem SoX.mk {R:Array Pc->Prop}{d:Array Pc}(h:SoW w blk off N n d W)(g:R d):SoX w blk off N n R W:=⟨d,h,g⟩
theorem b2x (blk off cap N n a b k:Nat)(d:Array Pc)(fv:Value)(w0 w:World)(hW:SoW w0 blk off N n d w)(hab:a+k<=b)(hbn:b+k<=n)(hn:n<=1000):
 Calls prog 206 #[.slice (some ⟨blk,off,none⟩) n cap,.int .i64 (a:Nat),.int .i64 (b:Nat),.int .i64 (k:Nat),fv] w λe w'=>e= .returned (.tuple #[])/\SoX w0 blk off N n (SwR a b k d) w':=by
 have mixed:prog.follows .mixedOrders=true:=by kernel_rfl
 have HW:Hid (SoW w0 blk off N n d w):=hW;have hsz:=hW.sz;clear hW;go_enter func206,ntmps206;go_wp2_with fail;go_loopw [10] (λvi wr=>∃(i:Nat) (dk:Array Pc),vi= .int .i64 (i:Nat)/\i<=k/\Hid (SoW w0 blk off N n dk wr)/\Hid (SwR a b i d dk)) (λvi _=>k+1-(intOf vi).toNat)
 case atStart=>exact⟨0,d,rfl,oM,HW,Lib.hid (SwR.zero a b d)⟩
 case round =>
  obtain⟨i,dk,rfl,hik,HR,HS⟩:=hrel;by_cases hlt:i<k
  ·have hltI:(i:Int)<(k:Int):=oM
   have hpn:a+i<n:=oM;have hqn:b+i<n:=oM;obtain⟨xp,hxp⟩:=zE (dk[a+i]!);obtain⟨xq,hxq⟩:=zE (dk[b+i]!);have hdz:=HR.out.sz;obtain⟨a0,a1,a2,a3,a4,a5,a6⟩:=hxp▸HR.out.row.pc (j:=a+i) oM;obtain⟨b0,b1,b2,b3,b4,b5,b6⟩:=hxq▸HR.out.row.pc (j:=b+i) oM;obtain⟨f0,f1,f2,f3,f4,f5,f6⟩:=HR.out.row.pf (j:=a+i) oM;obtain⟨g0,g1,g2,g3,g4,g5,g6⟩:=HR.out.row.pf (j:=b+i) oM;have HX:Hid (dk[a+i]! =xp/\dk[b+i]! =xq):=⟨hxp,hxq⟩;have HJ3:=Lib.hid (HR.out.swapG hpn hqn);have HS2:=Lib.hid (HS.out.step oM oM);clear hxp hxq;obtain⟨i1,x1,y1,cl1,n1,wt1,d1⟩:=xp;obtain⟨i2,x2,y2,cl2,n2,wt2,d2⟩:=xq;have hw1:IntKind.i64.wrap ((a:Int)+(i:Int))=(a:Int)+(i:Int):=by rw[IntKind.wrap_i64];omega
   have hw2:IntKind.i64.wrap ((b:Int)+(i:Int))=(b:Int)+(i:Int):=by rw[IntKind.wrap_i64];omega
   have hp0:(0:Int)<=(a:Int)+(i:Int):=oM;have hp1:(a:Int)+(i:Int)<(n:Int):=oM;have hq0:(0:Int)<=(b:Int)+(i:Int):=oM;have hq1:(b:Int)+(i:Int)<(n:Int):=oM;have hpe:((a:Int)+(i:Int)).toNat=a+i:=oM;have hqe:((b:Int)+(i:Int)).toNat=b+i:=oM;simp only at a0 a1 a2 a3 a4 a5 a6 b0 b1 b2 b3 b4 b5 b6;go_upto_region 3 with fail;go_big_region_o
   all_goals go_wp2_with fail
   go_roundw
   case rel =>
    refine⟨i+1,swp dk (a+i) (b+i),by go_num,oM,?_,HS2⟩;exact ydt
   case measure=>first|(simp[intOf];done)|(simp[intOf];omega)
  ·have hgeI:¬(i:Int)<(k:Int):=oM
   obtain rfl:i=k:=oM;go_wp2_with fail;go_end0;exact⟨rfl,.mk HR.out HS.out⟩
theorem c6h (blk off cap N n a m b:Nat)(d:Array Pc)(fv:Value)(w0 w:World)(hW:SoW w0 blk off N n d w)(ham:a<m)(hmb:m<b)(hbn:b<=n)(hn:n<=1000):
 Calls prog 187 #[.slice (some ⟨blk,off,none⟩) n cap,.int .i64 (a:Nat),.int .i64 (m:Nat),.int .i64 (b:Nat),fv] w λe w'=>e= .returned (.tuple #[])/\SoX w0 blk off N n (Rot a m b d) w':=by
 have HW:Hid (SoW w0 blk off N n d w):=hW;clear hW;have hw1:IntKind.i64.wrap ((m:Int)-(a:Int))=((m-a:Nat):Int):=by rw[IntKind.wrap_i64];omega
 have hw2:IntKind.i64.wrap ((b:Int)-(m:Int))=((b-m:Nat):Int):=by rw[IntKind.wrap_i64];omega
 go_enter func187,ntmps187;go_wp2_with fail;go_loopw [10,11] (λvi vj wr=>∃(i j:Nat) (dk:Array Pc),vi= .int .i64 (i:Nat)/\vj= .int .i64 (j:Nat)/\1<=i/\1<=j/\Hid (SoW w0 blk off N n dk wr)/\Hid (RoI a m b i j d dk)) (λvi vj _=>(intOf vi).toNat+(intOf vj).toNat)
 case atStart=>exact⟨m-a,b-m,d,by go_num,by go_num,oM,oM,HW,Lib.hid (RoI.start d oM oM)⟩
 case round =>
  obtain⟨i,j,dk,rfl,rfl,hi1,hj1,HR,HI⟩:=hrel;have hi0:=HI.out.i0;have hj0:=HI.out.j0;have hwmi:IntKind.i64.wrap ((m:Int)-(i:Int))=((m-i:Nat):Int):=by rw[IntKind.wrap_i64];omega
  rcases Nat.lt_trichotomy i j with hlt|heq|hgt
  ·have hne:¬(i:Int)=(j:Int):=oM
   have hng:¬(j:Int)<(i:Int):=oM;have hw4:IntKind.i64.wrap ((m:Int)+(j:Int))=(m:Int)+(j:Int):=by rw[IntKind.wrap_i64];omega
   have hw5:IntKind.i64.wrap ((m:Int)+(j:Int)-(i:Int))=((m+j-i:Nat):Int):=by rw[IntKind.wrap_i64];omega
   have hw6:IntKind.i64.wrap ((j:Int)-(i:Int))=((j-i:Nat):Int):=by rw[IntKind.wrap_i64];omega
   have hc:=b2x blk off cap N n (m-i) (m+j-i) i dk fv w0 wr HR.out oM oM hn;go_wp2_with (first
    |(go_at_call 206;(with_reducible refine hc.mono ?_);rintro e w1⟨rfl,⟨d1,hd1,hr1⟩⟩))
   go_roundw
   case rel=>exact⟨i,j-i,d1,by go_num,by go_num,oM,oM,Lib.hid hd1,Lib.hid (HI.out.right hlt hr1)⟩
   case measure=>first|(simp[intOf];done)|(simp[intOf];omega)
  ·subst heq
   have hc:=b2x blk off cap N n (m-i) m i dk fv w0 wr HR.out oM oM hn;go_wp2_with (first
    |(go_at_call 206;(with_reducible refine hc.mono ?_);rintro e w1⟨rfl,⟨d1,hd1,hr1⟩⟩))
   go_end0;exact⟨rfl,.mk hd1 (HI.out.done hr1)⟩
  ·have hne:¬(i:Int)=(j:Int):=oM
   have hgI:(j:Int)<(i:Int):=oM;have hw6:IntKind.i64.wrap ((i:Int)-(j:Int))=((i-j:Nat):Int):=by rw[IntKind.wrap_i64];omega
   have hc:=b2x blk off cap N n (m-i) m j dk fv w0 wr HR.out oM oM hn;go_wp2_with (first
    |(go_at_call 206;(with_reducible refine hc.mono ?_);rintro e w1⟨rfl,⟨d1,hd1,hr1⟩⟩))
   go_roundw
   case rel=>exact⟨i-j,j,d1,by go_num,by go_num,oM,oM,Lib.hid hd1,Lib.hid (HI.out.left hgt hr1)⟩
   case measure=>first|(simp[intOf];done)|(simp[intOf];omega)
theorem d9w {i j:Nat}(h:i<j):∃k:Nat,((i:Int)+(j:Int)) / 2=(k:Int)/\i<=k/\k<j:=⟨(i+j) / 2,oM,oM,oM⟩
theorem c9q (h:a1j x y=c)(hc:¬c<0):ltOf a1j x y=false:=by
 cases h1:ltOf a1j x y with
 |false=>rfl
 |true=>exact absurd ((d1o x y).1 h1) (by rw[h];exact hc)
theorem c9r (h:a1j x y=c)(hc:c<0):ltOf a1j x y=true:=(d1o x y).2 (by rw[h];exact hc)
theorem d3b (blk off cap N n a m b:Nat)(d:Array Pc)(w0 w:World)(hW:SoW w0 blk off N n d w)(hm:m=a+1)(hmb:m<b)(hbn:b<=n)(hn:n<=1000)(hR:SortedIn (ltOf a1j) m b d):
 Calls prog 171 #[.slice (some ⟨blk,off,none⟩) n cap,.int .i64 (a:Nat),.int .i64 (m:Nat),.int .i64 (b:Nat),.func (.func 103) #[] #[]] w λe w'=>e= .returned (.tuple #[])/\SoX w0 blk off N n (Srt (ltOf a1j) a b d) w':=by
 have mixed:prog.follows .mixedOrders=true:=by kernel_rfl
 have HW:Hid (SoW w0 blk off N n d w):=hW;have HR:=Lib.hid hR;have hsz:=hW.sz;clear hW hR;have hw1:IntKind.i64.wrap ((m:Int)-(a:Int))=1:=by rw[IntKind.wrap_i64];omega
 have hw0:((m:Int)-(a:Int))=1:=oM;have han:(a:Int)<(n:Int):=oM;replace hm:=Lib.hid hm;go_enter func171,ntmps171;go_wp2_with fail;go_loopw [10,11] (λvi vj wr=>∃(i j:Nat),vi= .int .i64 (i:Nat)/\vj= .int .i64 (j:Nat)/\m<=i/\i<=j/\j<=b/\Hid (SoW w0 blk off N n d wr)/\Hid (i=m\/ltOf a1j d[i-1]! d[a]! =true)/\Hid (j=b\/ltOf a1j d[j]! d[a]! =false)) (λvi vj _=>(intOf vj).toNat-(intOf vi).toNat)
 case atStart=>exact⟨m,b,rfl,rfl,oM,oM,oM,HW,Lib.hid (.inl rfl),Lib.hid (.inl rfl)⟩
 case round =>
  obtain⟨i,j,rfl,rfl,hi1,hij,hjb,HS,HL,HH⟩:=hrel;by_cases hlt:i<j
  ·have hltI:(i:Int)<(j:Int):=oM
   go_upto_region 5 with fail;obtain⟨h,hh,hih,hhj⟩:=d9w hlt;rw[hh];clear hh hltI;have hhn:(h:Int)<(n:Int):=oM;have hdz:=HS.out.sz;have hm':=hm.out;obtain⟨xh,hxh⟩:=zE (d[h]!);obtain⟨xa,hxa⟩:=zE (d[a]!);obtain⟨a0,a1,a2,a3,a4,a5,a6⟩:=hxh▸HS.out.row.pc (j:=h) oM;obtain⟨b0,b1,b2,b3,b4,b5,b6⟩:=hxa▸HS.out.row.pc (j:=a) oM;have HX:Hid (d[h]! =xh/\d[a]! =xa):=⟨hxh,hxa⟩;obtain⟨cv,hcv⟩:=zE (a1j xh xa);have hcmp:∀W,Calls prog 103 #[plV xh,plV xa] W λe w'=>e= .returned (.int .i64 cv)/\Below W.heap.size W w':=λW=>by rw[<-hcv];exact a5z xh xa W
   have HC:Hid (a1j xh xa=cv):=hcv;clear hxh hxa hcv hm';obtain⟨i1,x1,y1,cl1,n1,wt1,d1⟩:=xh;obtain⟨i2,x2,y2,cl2,n2,wt2,d2⟩:=xa;simp only at a0 a1 a2 a3 a4 a5 a6 b0 b1 b2 b3 b4 b5 b6;by_cases hlv:cv<0
   ·first|with_reducible refine a0e zM zM ?_|with_reducible refine a0g zM zM ?_
    repeat(first|go_big_quiet_step ((go_at_call 103;exact Calls.grow_of (hcmp _)))|quiet_step ((go_at_call 103;exact Calls.grow_of (hcmp _))))
    refine wpQuiet_nil ?_;intro _ hw_;obtain⟨p,hw_⟩:=hw_;subst hw_;go_wp2_with fail;go_roundw
    case rel=>exact⟨h+1,j,by go_num,rfl,oM,oM,hjb,HS.out.below (below_growBy _ _),Lib.hid (.inr (by show ltOf a1j d[h]! d[a]! =true;rw[HX.out.1,HX.out.2];exact c9r HC.out hlv)),HH⟩
    case measure=>first|(simp[intOf];done)|(simp[intOf];omega)
   ·first|with_reducible refine a0e zM zM ?_|with_reducible refine a0g zM zM ?_
    repeat(first|go_big_quiet_step ((go_at_call 103;exact Calls.grow_of (hcmp _)))|quiet_step ((go_at_call 103;exact Calls.grow_of (hcmp _))))
    refine wpQuiet_nil ?_;intro _ hw_;obtain⟨p,hw_⟩:=hw_;subst hw_;go_wp2_with fail;go_roundw
    case rel=>exact⟨i,h,rfl,by go_num,oM,oM,oM,HS.out.below (below_growBy _ _),HL,Lib.hid (.inr (by rw[HX.out.1,HX.out.2];exact c9q HC.out hlv))⟩
    case measure=>first|(simp[intOf];done)|(simp[intOf];omega)
  ·have hgeI:¬(i:Int)<(j:Int):=oM
   obtain rfl:i=j:=oM;have hm':=hm.out;have hwi:IntKind.i64.wrap ((i:Int)-1)=(i:Int)-1:=by rw[IntKind.wrap_i64];omega
   go_wp2_with fail;go_loopw [13] (λvk wr=>∃(k:Nat) (dk:Array Pc),vk= .int .i64 (k:Nat)/\a<=k/\k+1<=i/\Hid (SoW w0 blk off N n dk wr)/\Hid (Rot a (a+1) (k+1) d dk)) (λvk _=>i-(intOf vk).toNat)
   case atStart=>exact⟨a,d,rfl,oM,oM,HS,Lib.hid (Rot.none (.inr rfl) oM oM)⟩
   case round =>
    obtain⟨k,dk,rfl,hak,hki,HK,HO⟩:=hrel;by_cases hkl:k+1<i
    ·have hkI:(k:Int)<(i:Int)-1:=oM
     obtain⟨xp,hxp⟩:=zE (dk[k]!);obtain⟨xq,hxq⟩:=zE (dk[k+1]!);have hdz:=HK.out.sz;obtain⟨a0,a1,a2,a3,a4,a5,a6⟩:=hxp▸HK.out.row.pc (j:=k) oM;obtain⟨b0,b1,b2,b3,b4,b5,b6⟩:=hxq▸HK.out.row.pc (j:=k+1) oM;obtain⟨f0,f1,f2,f3,f4,f5,f6⟩:=HK.out.row.pf (j:=k) oM;obtain⟨g0,g1,g2,g3,g4,g5,g6⟩:=HK.out.row.pf (j:=k+1) oM;have HX:Hid (dk[k]! =xp/\dk[k+1]! =xq):=⟨hxp,hxq⟩;have HJ3:=Lib.hid (HK.out.swapG (p:=k) (q:=k+1) oM oM);have HO2:=Lib.hid (HO.out.right hak oM);clear hxp hxq;obtain⟨i1,x1,y1,cl1,n1,wt1,d1⟩:=xp;obtain⟨i2,x2,y2,cl2,n2,wt2,d2⟩:=xq;have hw2:IntKind.i64.wrap ((k:Int)+1)=(k:Int)+1:=by rw[IntKind.wrap_i64];omega
     have hp1:(k:Int)<(n:Int):=oM;have hq0:(0:Int)<=(k:Int)+1:=oM;have hq1:(k:Int)+1<(n:Int):=oM;have hqe:((k:Int)+1).toNat=k+1:=oM;simp only at a0 a1 a2 a3 a4 a5 a6 b0 b1 b2 b3 b4 b5 b6;clear hm' hw0 hw1;go_upto_region 11 with fail;go_big_region_o
     all_goals go_wp2_with fail
     go_roundw
     case rel =>
      refine⟨k+1,swp dk k (k+1),by go_num,oM,oM,?_,HO2⟩;exact ydt
     case measure=>first|(simp[intOf];done)|(simp[intOf];omega)
    ·have hkI:¬(k:Int)<(i:Int)-1:=oM
     have hRr:=HR.out;rw[hm']at hRr;have hfin:=Lib.hid (d3a swoP hRr (d1:=dk) (show a+1<=k+1 by omega) (show k+1<=b by omega) (by rw[show k+1=i by omega];rw[<-hm'];exact HL.out) (by rw[show k+1=i by omega];exact HH.out) HO.out);clear hRr;exact yib
theorem d3c (blk off cap N n a m b:Nat)(d:Array Pc)(w0 w:World)(hW:SoW w0 blk off N n d w)(hm:b=m+1)(ham:a+1<m)(hbn:b<=n)(hn:n<=1000)(hL:SortedIn (ltOf a1j) a m d):
 Calls prog 171 #[.slice (some ⟨blk,off,none⟩) n cap,.int .i64 (a:Nat),.int .i64 (m:Nat),.int .i64 (b:Nat),.func (.func 103) #[] #[]] w λe w'=>e= .returned (.tuple #[])/\SoX w0 blk off N n (Srt (ltOf a1j) a b d) w':=by
 have mixed:prog.follows .mixedOrders=true:=by kernel_rfl
 have HW:Hid (SoW w0 blk off N n d w):=hW;have HR:=Lib.hid hL;have hsz:=hW.sz;clear hW hL;have hw1:IntKind.i64.wrap ((b:Int)-(m:Int))=1:=by rw[IntKind.wrap_i64];omega
 have hw0:((b:Int)-(m:Int))=1:=oM;have hw3:IntKind.i64.wrap ((m:Int)-(a:Int))=(m:Int)-(a:Int):=by rw[IntKind.wrap_i64];omega
 have hw2:¬((m:Int)-(a:Int))=1:=oM;have hmn:(m:Int)<(n:Int):=oM;replace hm:=Lib.hid hm;go_enter func171,ntmps171;go_wp2_with fail;go_loopw [14,15] (λvi vj wr=>∃(i j:Nat),vi= .int .i64 (i:Nat)/\vj= .int .i64 (j:Nat)/\a<=i/\i<=j/\j<=m/\Hid (SoW w0 blk off N n d wr)/\Hid (i=a\/ltOf a1j d[m]! d[i-1]! =false)/\Hid (j=m\/ltOf a1j d[m]! d[j]! =true)) (λvi vj _=>(intOf vj).toNat-(intOf vi).toNat)
 case atStart=>exact⟨a,m,rfl,rfl,oM,oM,oM,HW,Lib.hid (.inl rfl),Lib.hid (.inl rfl)⟩
 case round =>
  obtain⟨i,j,rfl,rfl,hi1,hij,hjb,HS,HL,HH⟩:=hrel;by_cases hlt:i<j
  ·have hltI:(i:Int)<(j:Int):=oM
   go_upto_region 17 with fail;obtain⟨h,hh,hih,hhj⟩:=d9w hlt;rw[hh];clear hh hltI;have hhn:(h:Int)<(n:Int):=oM;have hdz:=HS.out.sz;obtain⟨xh,hxh⟩:=zE (d[h]!);obtain⟨xa,hxa⟩:=zE (d[m]!);obtain⟨a0,a1,a2,a3,a4,a5,a6⟩:=hxh▸HS.out.row.pc (j:=h) oM;obtain⟨b0,b1,b2,b3,b4,b5,b6⟩:=hxa▸HS.out.row.pc (j:=m) oM;have HX:Hid (d[h]! =xh/\d[m]! =xa):=⟨hxh,hxa⟩;obtain⟨cv,hcv⟩:=zE (a1j xa xh);have hcmp:∀W,Calls prog 103 #[plV xa,plV xh] W λe w'=>e= .returned (.int .i64 cv)/\Below W.heap.size W w':=λW=>by rw[<-hcv];exact a5z xa xh W
   have HC:Hid (a1j xa xh=cv):=hcv;clear hxh hxa hcv;obtain⟨i1,x1,y1,cl1,n1,wt1,d1⟩:=xh;obtain⟨i2,x2,y2,cl2,n2,wt2,d2⟩:=xa;simp only at a0 a1 a2 a3 a4 a5 a6 b0 b1 b2 b3 b4 b5 b6;by_cases hlv:cv<0
   ·first|with_reducible refine a0e zM zM ?_|with_reducible refine a0g zM zM ?_
    repeat(first|go_big_quiet_step ((go_at_call 103;exact Calls.grow_of (hcmp _)))|quiet_step ((go_at_call 103;exact Calls.grow_of (hcmp _))))
    refine wpQuiet_nil ?_;intro _ hw_;obtain⟨p,hw_⟩:=hw_;subst hw_;go_wp2_with fail;go_roundw
    case rel=>exact⟨i,h,rfl,by go_num,oM,oM,oM,HS.out.below (below_growBy _ _),HL,Lib.hid (.inr (by rw[HX.out.1,HX.out.2];exact c9r HC.out hlv))⟩
    case measure=>first|(simp[intOf];done)|(simp[intOf];omega)
   ·first|with_reducible refine a0e zM zM ?_|with_reducible refine a0g zM zM ?_
    repeat(first|go_big_quiet_step ((go_at_call 103;exact Calls.grow_of (hcmp _)))|quiet_step ((go_at_call 103;exact Calls.grow_of (hcmp _))))
    refine wpQuiet_nil ?_;intro _ hw_;obtain⟨p,hw_⟩:=hw_;subst hw_;go_wp2_with fail;go_roundw
    case rel=>exact⟨h+1,j,by go_num,rfl,oM,oM,hjb,HS.out.below (below_growBy _ _),Lib.hid (.inr (by show ltOf a1j d[m]! d[h]! =false;rw[HX.out.1,HX.out.2];exact c9q HC.out hlv)),HH⟩
    case measure=>first|(simp[intOf];done)|(simp[intOf];omega)
  ·have hgeI:¬(i:Int)<(j:Int):=oM
   obtain rfl:i=j:=oM;go_wp2_with fail;go_loopw [17] (λvk wr=>∃(k:Nat) (dk:Array Pc),vk= .int .i64 (k:Nat)/\i<=k/\k<=m/\Hid (SoW w0 blk off N n dk wr)/\Hid (Rot k m (m+1) d dk)) (λvk _=>(intOf vk).toNat)
   case atStart=>exact⟨m,d,rfl,oM,oM,HS,Lib.hid (Rot.none (.inl rfl) oM oM)⟩
   case round =>
    obtain⟨k,dk,rfl,hik,hkm,HK,HO⟩:=hrel;by_cases hkl:i<k
    ·obtain⟨k,rfl⟩:∃kp,k=kp+1:=⟨k-1,oM⟩
     have hkI:(i:Int)<(k:Int)+1:=oM;obtain⟨xp,hxp⟩:=zE (dk[k+1]!);obtain⟨xq,hxq⟩:=zE (dk[k]!);have hdz:=HK.out.sz;obtain⟨a0,a1,a2,a3,a4,a5,a6⟩:=hxp▸HK.out.row.pc (j:=k+1) oM;obtain⟨b0,b1,b2,b3,b4,b5,b6⟩:=hxq▸HK.out.row.pc (j:=k) oM;obtain⟨f0,f1,f2,f3,f4,f5,f6⟩:=HK.out.row.pf (j:=k+1) oM;obtain⟨g0,g1,g2,g3,g4,g5,g6⟩:=HK.out.row.pf (j:=k) oM;have HX:Hid (dk[k+1]! =xp/\dk[k]! =xq):=⟨hxp,hxq⟩;have HJ3:=Lib.hid (HK.out.swapG (p:=k+1) (q:=k) oM oM);have hm':=hm.out;have HO2:=Lib.hid (HO.out.left oM oM);clear hxp hxq hm';obtain⟨i1,x1,y1,cl1,n1,wt1,d1⟩:=xp;obtain⟨i2,x2,y2,cl2,n2,wt2,d2⟩:=xq;have hwp:IntKind.i64.wrap (k:Int)=(k:Int):=by rw[IntKind.wrap_i64];omega
     have hp1:(k:Int)<(n:Int):=oM;have hq0:(0:Int)<=(k:Int)+1:=oM;have hq1:(k:Int)+1<(n:Int):=oM;have hqe:((k:Int)+1).toNat=k+1:=oM;simp only at a0 a1 a2 a3 a4 a5 a6 b0 b1 b2 b3 b4 b5 b6;clear hw0 hw1 hw2 hw3;go_upto_region 23 with fail;go_big_region_o
     all_goals go_wp2_with fail
     go_roundw
     case rel =>
      refine⟨k,swp dk (k+1) k,by go_num,oM,oM,?_,HO2⟩;exact ydt
     case measure=>first|(simp[intOf];done)|(simp[intOf];omega)
    ·have hkI:¬(i:Int)<(k:Int):=oM
     obtain rfl:i=k:=oM;have hfin:=c9n swoP HR.out (d1:=dk) hi1 hkm HL.out HH.out HO.out;rw[<-hm.out]at hfin;replace hfin:=Lib.hid hfin;exact yib
end
end Go.Proofs.YtfocdbjceedagaaGreatDoor
