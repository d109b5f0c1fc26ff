/-
  Parts.
-/
import Derived.Test.YtfocdbjceedagaaGreatDoorCao
set_option linter.unusedVariables false
set_option linter.unusedSimpArgs false
set_option maxHeartbeats 16000000
set_option maxRecDepth 100000
namespace Go.Proofs.YtfocdbjceedagaaGreatDoor
open Tryz
section
open Go.RowKit Go.Shelf Go.Lib Go.Sort
def e3y (blk off cap N n:Nat)(w0:Wd)(sz:Nat):Prop:=∀(a m b:Nat) (d:Array Pc) (w:Wd),b-a<=sz->SoW w0 blk off N n d w->a<m->m<b->b<=n->SortedIn (ltOf a1o) a m d->SortedIn (ltOf a1o) m b d ->
    Calls prog 171 #[.slice (some ⟨blk,off,none⟩) n cap,.int .i64 (a:Nat),.int .i64 (m:Nat),.int .i64 (b:Nat),.func (.func 103) #[] #[]] w λe w'=>e= .returned (.tuple #[])/\SoX w0 blk off N n (Srt (ltOf a1o) a b d) w'
structure SyB (a m b mid lo hi:Nat):Prop where
 lo0:a<=lo
 lh:lo<=hi
 hm:hi<=m
 hd:hi<=mid
 lb:mid+m<=b+lo
 l1:lo=a\/mid+m=b+lo
 h1:hi=m\/hi=mid
theorem d5h (blk off cap N n a m b sz:Nat)(d:Array Pc)(w0 w:Wd)(ih:e3y blk off cap N n w0 sz)(bu:b-a<=sz+1)(hW:SoW w0 blk off N n d w)(IB:a+1<m)(xE:m+1<b)(lT:b<=n)(hn:n<=1000)(hL:SortedIn (ltOf a1o) a m d)(hR:SortedIn (ltOf a1o) m b d) :
 Calls prog 171 #[.slice (some ⟨blk,off,none⟩) n cap,.int .i64 (a:Nat),.int .i64 (m:Nat),.int .i64 (b:Nat),.func (.func 103) #[] #[]] w λe w'=>e= .returned (.tuple #[])/\SoX w0 blk off N n (Srt (ltOf a1o) a b d) w':=by
 have mixed:prog.follows .mixedOrders=true:=by kernel_rfl
 have HW:Hid (SoW w0 blk off N n d w):=hW;have IJ:=Lib.hid hL;have IK:=Lib.hid hR;replace ih:=Lib.hid ih;clear hW hL hR;have aE:IntKind.i64.wrap ((m:Int)-(a:Int))=(m:Int)-(a:Int):=by rw[IntKind.wrap_i64];omega
 have gQ:IntKind.i64.wrap ((b:Int)-(m:Int))=(b:Int)-(m:Int):=by rw[IntKind.wrap_i64];omega
 have eP:¬((m:Int)-(a:Int))=1:=oM;have iP:¬((b:Int)-(m:Int))=1:=oM;obtain⟨mid,IL,MB,MC⟩:∃k:Nat,((a:Int)+(b:Int)) / 2=(k:Int)/\2*k<=a+b/\a+b<=2*k+1:=⟨(a+b) / 2,oM,oM,oM⟩;go_enter func171,ntmps171;go_upto_region 25 with fail;clear IL aE gQ eP iP;have wM:IntKind.i64.wrap ((mid:Int)+(m:Int))=(mid:Int)+(m:Int):=by rw[IntKind.wrap_i64];omega
 go_upto_if 140 with fail;go_cut [20,21] (λv u wx=>∃lo hi:Nat,v= .int .i64 (lo:Nat)/\u= .int .i64 (hi:Nat)/\SyB a m b mid lo hi/\w=wx)
 case first =>
  by_cases vp:mid<m
  ·have tj:(mid:Int)<(m:Int):=oM
   have pY:IntKind.i64.wrap ((mid:Int)+(m:Int)-(b:Int))=((mid+m-b:Nat):Int):=by rw[IntKind.wrap_i64];omega
   go_wp2_with fail;go_meet;exact⟨mid+m-b,mid,by go_num,by go_num,⟨oM,oM,oM,oM,oM,.inr oM,.inr rfl⟩,rfl⟩
  ·have tj:¬(mid:Int)<(m:Int):=oM
   go_wp2_with fail;go_meet;exact⟨a,m,by go_num,by go_num,⟨oM,oM,oM,oM,oM,.inl rfl,.inl rfl⟩,rfl⟩
 case rest =>
 obtain⟨lo,hi,rfl,rfl,⟨q1,q2,q3,q4,q5,q6,q7⟩,rfl⟩:=hcut;have fI:IntKind.i64.wrap ((mid:Int)+(m:Int)-1)=(mid:Int)+(m:Int)-1:=by rw[IntKind.wrap_i64];omega
 replace q6:=Lib.hid q6;replace q7:=Lib.hid q7;go_wp2_with fail;go_loopw [20,21] (λvi vj wr=>∃(i j:Nat),vi= .int .i64 (i:Nat)/\vj= .int .i64 (j:Nat)/\lo<=i/\i<=j/\j<=hi/\Hid (SoW w0 blk off N n d wr)/\Hid (i=lo\/ltOf a1o d[mid+m-1-(i-1)]! d[i-1]! =false)/\Hid (j=hi\/ltOf a1o d[mid+m-1-j]! d[j]! =true)) (λvi vj _=>(intOf vj).toNat-(intOf vi).toNat)
 case atStart=>exact⟨lo,hi,rfl,rfl,oM,oM,oM,HW,Lib.hid (.inl rfl),Lib.hid (.inl rfl)⟩
 case round =>
  obtain⟨i,j,rfl,rfl,el,ee,sE,HS,HL,HH⟩:=hrel;by_cases ag:i<j
  ·as_aux_lemma =>
   have aA:(i:Int)<(j:Int):=oM;go_upto_region 35 with fail;obtain⟨h,hh,My,Mz⟩:=e2t ag;rw[hh];clear hh aA;have MA:(h:Int)<(n:Int):=oM;obtain⟨p,hp⟩:=zE (mid+m-1-h);have qD:(p:Int)<(n:Int):=oM;have Fq:IntKind.i64.wrap ((mid:Int)+(m:Int)-1-(h:Int))=(p:Int):=by rw[IntKind.wrap_i64];omega
   have vH:=HS.out.sz;obtain⟨xh,qT⟩:=zE (d[h]!);obtain⟨xa,nV⟩:=zE (d[p]!);obtain⟨a0,a1,a2,a3,a4,a5,a6⟩:=qT▸HS.out.row.pc (j:=h) oM;obtain⟨b0,b1,b2,b3,b4,b5,b6⟩:=nV▸HS.out.row.pc (j:=p) oM;have HX:Hid (d[h]! =xh/\d[p]! =xa):=⟨qT,nV⟩;obtain⟨cv,fL⟩:=zE (a1o xa xh);have j8:∀W,Zc prog 103 #[plV xa,plV xh] W (.int .i64 cv):=λW=>by rw[<-fL];exact a6m xa xh W
   have HC:Hid (a1o xa xh=cv):=fL;replace hp:=Lib.hid hp;clear qT nV fL wM fI;obtain⟨i1,x1,y1,tD,n1,xw,d1⟩:=xh;obtain⟨i2,x2,y2,tE,n2,rY,d2⟩:=xa;simp only at a0 a1 a2 a3 a4 a5 a6 b0 b1 b2 b3 b4 b5 b6;by_cases aJ:cv<0
   ·refine zR2 λp=> ?_
    go_wp2_with fail;go_roundw
    case rel=>exact⟨i,h,rfl,by go_num,oM,oM,oM,HS.out.below (below_growBy _ _),HL,Lib.hid (.inr (by rw[hp.out,HX.out.1,HX.out.2];exact d0z HC.out aJ))⟩
    case measure=>exact yaz
   ·refine zR2 λp=> ?_
    go_wp2_with fail;go_roundw
    case rel=>exact⟨h+1,j,by go_num,rfl,oM,oM,sE,HS.out.below (below_growBy _ _),Lib.hid (.inr (by show ltOf a1o d[mid+m-1-h]! d[h]! =false;rw[hp.out,HX.out.1,HX.out.2];exact d0y HC.out aJ)),HH⟩
    case measure=>exact yaz
  ·have iF:¬(i:Int)<(j:Int):=oM
   obtain rfl:i=j:=oM;obtain⟨e,he⟩:=zE (mid+m-i);have Qp:=q6.out;have Qq:=q7.out;have vJ:Cut (ltOf a1o) a m b i e d:=by
    rw[<-he];refine e0t swoP IJ.out IK.out oM oM oM oM (λg1 g2=> ?_) (λg1 g2=> ?_)
    ·rcases HH.out with h|h
     ·omega
     ·exact h
    ·rcases HL.out with h|h
     ·omega
     ·exact h
   have H9:IntKind.i64.wrap ((mid:Int)+(m:Int)-(i:Int))=(e:Int):=by rw[IntKind.wrap_i64];omega
   have bR:=vJ.sm;have pL:=vJ.me;have FR:=vJ.eb;have has:=vJ.la;have vK:i+(e-m)=mid:=oM;replace vJ:=Lib.hid vJ;replace he:=Lib.hid he;clear Qp Qq HL HH HW wM fI;go_upto_region 39 with fail;go_cut [185] (λv wx=>v= .bool (decide (i<m)&&decide (m<e))/\wr=wx)
   case first =>
    by_cases g1:i<m
    ·have Du:(i:Int)<(m:Int):=oM
     by_cases g2:m<e
     ·have Dv:(m:Int)<(e:Int):=oM
      exact ydx
     ·have Dv:¬(m:Int)<(e:Int):=oM
      exact ydx
    ·have Du:¬(i:Int)<(m:Int):=oM
     exact yja
   case rest =>
   as_aux_lemma =>
   obtain⟨rfl,rfl⟩:=hcut;obtain⟨c1,cj⟩:=zE ((decide (i<m)&&decide (m<e)));rw[cj];go_upto_if 185 with fail;go_cut [24] (λv wx=>v= .int .i64 (e:Nat)/\SoX w0 blk off N n (Rot i m e d) wx)
   case first =>
    cases c1
    ·go_wp2_with fail
     go_meet;refine⟨rfl,.mk HS.out (Rot.none ?_ bR pL)⟩;simp at cj;omega
    ·simp only[Bool.and_eq_true,decide_eq_true_eq]at cj
     obtain⟨g1,g2⟩:=cj;have hc:=c7l blk off cap N n i m e d (.func (.func 103) #[] #[]) w0 _ HS.out g1 g2 oM hn;go_wp2_with (first
      |(go_at_call 187;(with_reducible refine hc.mono ?_);rintro e5 w1⟨rfl,gB⟩))
     go_meet;exact⟨rfl,gB⟩
   case rest =>
   as_aux_lemma =>
   obtain⟨rfl,d1,ny,cK⟩:=hcut;clear cj H9;obtain⟨⟨s1,s2,s3,s4⟩,-⟩:=Cut.step (d2:=d1) (d3:=d1) swoP vJ.out IJ.out IK.out cK;rw[vK]at s2 s3;replace ny:=Lib.hid ny;replace cK:=Lib.hid cK;replace s1:=Lib.hid s1;replace s2:=Lib.hid s2;replace s3:=Lib.hid s3;replace s4:=Lib.hid s4;have tW:i<=mid:=oM;have IM:mid<=e:=oM;have Qr:mid<b:=oM;have Qs:a<mid:=oM;clear q1 q2 q3 q4 q5 q6 q7 HS el ee sE ag iF;go_upto_region 41 with fail;go_cut [199] (λv wx=>v= .bool (decide (a<i)&&decide (i<mid))/\wc=wx)
   case first =>
    by_cases g1:a<i
    ·have Du:(a:Int)<(i:Int):=oM
     by_cases g2:i<mid
     ·have Dv:(i:Int)<(mid:Int):=oM
      exact ydx
     ·have Dv:¬(i:Int)<(mid:Int):=oM
      exact ydx
    ·have Du:¬(a:Int)<(i:Int):=oM
     exact yja
   case rest =>
   as_aux_lemma =>
   obtain⟨rfl,rfl⟩:=hcut;obtain⟨c1,cj⟩:=zE ((decide (a<i)&&decide (i<mid)));rw[cj];go_upto_if 199 with fail;go_cut [24] (λv wx=>v= .int .i64 (e:Nat)/\SoX w0 blk off N n (Srt (ltOf a1o) a mid d1) wx)
   case first =>
    cases c1
    ·go_wp2_with fail
     go_meet;refine⟨rfl,.mk ny.out (a3s ?_)⟩;have bK:i=a\/i=mid:=by
      simp at cj;omega
     rcases bK with h|h
     ·have:=s2.out
      rw[h]at this;exact this
     ·have:=s1.out
      rw[h]at this;exact this
    ·simp only[Bool.and_eq_true,decide_eq_true_eq]at cj
     obtain⟨g1,g2⟩:=cj;have hc:=ih.out a i mid d1 _ oM ny.out g1 g2 oM s1.out s2.out;go_wp2_with (first
      |(go_at_call 171;(with_reducible refine hc.mono ?_);rintro e5 w1⟨rfl,gB⟩))
     go_meet;exact⟨rfl,gB⟩
   case rest =>
   as_aux_lemma =>
   obtain⟨rfl,d2,qp,bB⟩:=hcut;clear cj;replace qp:=Lib.hid qp;have s5:=Lib.hid (SortedIn.outs s3.out bB.out (.inr (yR _)));have s6:=Lib.hid (SortedIn.outs s4.out bB.out (.inr IM));replace bB:=Lib.hid bB;clear ny s1 s2 s3 s4;go_upto_region 43 with fail;go_cut [213] (λv wx=>v= .bool (decide (mid<e)&&decide (e<b))/\wc=wx)
   case first =>
    by_cases g1:mid<e
    ·have Du:(mid:Int)<(e:Int):=oM
     by_cases g2:e<b
     ·have Dv:(e:Int)<(b:Int):=oM
      exact ydx
     ·have Dv:¬(e:Int)<(b:Int):=oM
      exact ydx
    ·have Du:¬(mid:Int)<(e:Int):=oM
     exact yja
   case rest =>
   as_aux_lemma =>
   obtain⟨rfl,rfl⟩:=hcut;obtain⟨c1,cj⟩:=zE ((decide (mid<e)&&decide (e<b)));rw[cj];have dC:∀d3,Srt (ltOf a1o) mid b d2 d3->Srt (ltOf a1o) a b d d3:=λd3 h3=>by
    have hx:=(Cut.step (d2:=d2) (d3:=d3) swoP vJ.out IJ.out IK.out cK.out).2;rw[vK]at hx;exact hx bB.out h3
   replace dC:=Lib.hid dC
   cases c1
   ·have bK:mid=e\/e=b:=by
     simp at cj;omega
    have ye:Srt (ltOf a1o) mid b d2 d2:=a3s (by
     rcases bK with h|h
     ·have:=s6.out
      rw[<-h]at this;exact this
     ·have:=s5.out
      rw[h]at this;exact this)
    replace ye:=Lib.hid ye;clear bK cj;go_wp2_with fail;go_end0;exact⟨rfl,.mk qp.out (dC.out _ ye.out)⟩
   ·simp only[Bool.and_eq_true,decide_eq_true_eq]at cj
    obtain⟨g1,g2⟩:=cj;have hc:=ih.out mid e b d2 _ oM qp.out g1 g2 lT s5.out s6.out;go_wp2_with (first
     |(go_at_call 171;(with_reducible refine hc.mono ?_);rintro e5 w1⟨rfl,d3,Qt,xm⟩))
    go_end0;exact⟨rfl,.mk Qt (dC.out _ xm)⟩
theorem a6z (blk off cap N n:Nat)(w0:Wd)(hn:n<=1000):∀sz,e3y blk off cap N n w0 sz
 |0,a,m,b,d,w,h,_,h1,h2,_,_,_=>by omega
 |sz+1,a,m,b,d,w,h,hW,h1,h2,hb,hL,hR=>by
  by_cases g1:m=a+1
  ·exact d5f blk off cap N n a m b d w0 w hW g1 h2 hb hn hR
  ·by_cases g2:b=m+1
   ·exact d5g blk off cap N n a m b d w0 w hW g2 oM hb hn hL
   ·exact d5h blk off cap N n a m b sz d w0 w (a6z blk off cap N n w0 hn sz) h hW oM oM hb hn hL hR
end
end Go.Proofs.YtfocdbjceedagaaGreatDoor
