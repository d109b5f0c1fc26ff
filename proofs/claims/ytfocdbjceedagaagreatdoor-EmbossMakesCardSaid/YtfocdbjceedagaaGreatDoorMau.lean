/-
  Parts.
-/
import Derived.Test.YtfocdbjceedagaaGreatDoorMat
set_option linter.unusedVariables false
set_option linter.unusedSimpArgs false
set_option maxHeartbeats 16000000
set_option maxRecDepth 100000
namespace Go.Proofs.YtfocdbjceedagaaGreatDoor
open Tryz
section
open Go.RowKit Go.Shelf Go.Lib Go.Sort
attribute [local go_sem] Oper.semAt_some
attribute [local go_sem ↓] Go.wp_at_zero Go.wp_at_succ
def e0u (blk off cap N n:Nat)(w0:World)(sz:Nat):Prop:=∀(a m b:Nat) (d:Array Pc) (w:World),b-a<=sz->SoW w0 blk off N n d w->a<m->m<b->b<=n->SortedIn (ltOf a1j) a m d->SortedIn (ltOf a1j) m b d ->
    Calls prog 171 #[.slice (some ⟨blk,off,none⟩) n cap,.int .i64 (a:Nat),.int .i64 (m:Nat),.int .i64 (b:Nat),.func (.func 103) #[] #[]] w λe w'=>e= .returned (.tuple #[])/\SoX w0 blk off N n (Srt (ltOf a1j) a b d) w'
structure SyB (a m b mid lo hi:Nat):Prop where
 lo0:a<=lo
 lh:lo<=hi
 hm:hi<=m
 hd:hi<=mid
 lb:mid+m<=b+lo
 l1:lo=a\/mid+m=b+lo
 h1:hi=m\/hi=mid
theorem d3d (blk off cap N n a m b sz:Nat)(d:Array Pc)(w0 w:World)(ih:e0u blk off cap N n w0 sz)(hsz:b-a<=sz+1)(hW:SoW w0 blk off N n d w)(ham:a+1<m)(hmb:m+1<b)(hbn:b<=n)(hn:n<=1000)(hL:SortedIn (ltOf a1j) a m d)(hR:SortedIn (ltOf a1j) m b d) :
 Calls prog 171 #[.slice (some ⟨blk,off,none⟩) n cap,.int .i64 (a:Nat),.int .i64 (m:Nat),.int .i64 (b:Nat),.func (.func 103) #[] #[]] w λe w'=>e= .returned (.tuple #[])/\SoX w0 blk off N n (Srt (ltOf a1j) a b d) w':=by
 have mixed:prog.follows .mixedOrders=true:=by kernel_rfl
 have HW:Hid (SoW w0 blk off N n d w):=hW;have HL0:=Lib.hid hL;have HR0:=Lib.hid hR;replace ih:=Lib.hid ih;clear hW hL hR;have hw1:IntKind.i64.wrap ((m:Int)-(a:Int))=(m:Int)-(a:Int):=by rw[IntKind.wrap_i64];omega
 have hw2:IntKind.i64.wrap ((b:Int)-(m:Int))=(b:Int)-(m:Int):=by rw[IntKind.wrap_i64];omega
 have hn1:¬((m:Int)-(a:Int))=1:=oM;have hn2:¬((b:Int)-(m:Int))=1:=oM;obtain⟨mid,hmid,hmid1,hmid2⟩:∃k:Nat,((a:Int)+(b:Int)) / 2=(k:Int)/\2*k<=a+b/\a+b<=2*k+1:=⟨(a+b) / 2,oM,oM,oM⟩;go_enter func171,ntmps171;go_upto_region 25 with fail;clear hmid hw1 hw2 hn1 hn2;have hw3:IntKind.i64.wrap ((mid:Int)+(m:Int))=(mid:Int)+(m:Int):=by rw[IntKind.wrap_i64];omega
 go_upto_if 140 with fail;go_cut [20,21] (λv u wx=>∃lo hi:Nat,v= .int .i64 (lo:Nat)/\u= .int .i64 (hi:Nat)/\SyB a m b mid lo hi/\w=wx)
 case first =>
  by_cases hmm:mid<m
  ·have hmI:(mid:Int)<(m:Int):=oM
   have hw4:IntKind.i64.wrap ((mid:Int)+(m:Int)-(b:Int))=((mid+m-b:Nat):Int):=by rw[IntKind.wrap_i64];omega
   go_wp2_with fail;go_meet;exact⟨mid+m-b,mid,by go_num,by go_num,⟨oM,oM,oM,oM,oM,.inr oM,.inr rfl⟩,rfl⟩
  ·have hmI:¬(mid:Int)<(m:Int):=oM
   go_wp2_with fail;go_meet;exact⟨a,m,by go_num,by go_num,⟨oM,oM,oM,oM,oM,.inl rfl,.inl rfl⟩,rfl⟩
 case rest =>
 obtain⟨lo,hi,rfl,rfl,⟨q1,q2,q3,q4,q5,q6,q7⟩,rfl⟩:=hcut;have hw5:IntKind.i64.wrap ((mid:Int)+(m:Int)-1)=(mid:Int)+(m:Int)-1:=by rw[IntKind.wrap_i64];omega
 replace q6:=Lib.hid q6;replace q7:=Lib.hid q7;go_wp2_with fail;go_loopw [20,21] (λvi vj wr=>∃(i j:Nat),vi= .int .i64 (i:Nat)/\vj= .int .i64 (j:Nat)/\lo<=i/\i<=j/\j<=hi/\Hid (SoW w0 blk off N n d wr)/\Hid (i=lo\/ltOf a1j d[mid+m-1-(i-1)]! d[i-1]! =false)/\Hid (j=hi\/ltOf a1j d[mid+m-1-j]! d[j]! =true)) (λvi vj _=>(intOf vj).toNat-(intOf vi).toNat)
 case atStart=>exact⟨lo,hi,rfl,rfl,oM,oM,oM,HW,Lib.hid (.inl rfl),Lib.hid (.inl rfl)⟩
 case round =>
  obtain⟨i,j,rfl,rfl,hi1,hij,hjb,HS,HL,HH⟩:=hrel;by_cases hlt:i<j
  ·as_aux_lemma =>
   have hltI:(i:Int)<(j:Int):=oM;go_upto_region 35 with fail;obtain⟨h,hh,hih,hhj⟩:=d9w hlt;rw[hh];clear hh hltI;have hhn:(h:Int)<(n:Int):=oM;obtain⟨p,hp⟩:=zE (mid+m-1-h);have hpn:(p:Int)<(n:Int):=oM;have hwp:IntKind.i64.wrap ((mid:Int)+(m:Int)-1-(h:Int))=(p:Int):=by rw[IntKind.wrap_i64];omega
   have hdz:=HS.out.sz;obtain⟨xh,hxh⟩:=zE (d[h]!);obtain⟨xa,hxa⟩:=zE (d[p]!);obtain⟨a0,a1,a2,a3,a4,a5,a6⟩:=hxh▸HS.out.row.pc (j:=h) oM;obtain⟨b0,b1,b2,b3,b4,b5,b6⟩:=hxa▸HS.out.row.pc (j:=p) oM;have HX:Hid (d[h]! =xh/\d[p]! =xa):=⟨hxh,hxa⟩;obtain⟨cv,hcv⟩:=zE (a1j xa xh);have hcmp:∀W,Calls prog 103 #[plV xa,plV xh] W λe w'=>e= .returned (.int .i64 cv)/\Below W.heap.size W w':=λW=>by rw[<-hcv];exact a5z xa xh W
   have HC:Hid (a1j xa xh=cv):=hcv;replace hp:=Lib.hid hp;clear hxh hxa hcv hw3 hw5;obtain⟨i1,x1,y1,cl1,n1,wt1,d1⟩:=xh;obtain⟨i2,x2,y2,cl2,n2,wt2,d2⟩:=xa;simp only at a0 a1 a2 a3 a4 a5 a6 b0 b1 b2 b3 b4 b5 b6;by_cases hlv:cv<0
   ·first|with_reducible refine a0e zM zM ?_|with_reducible refine a0g zM zM ?_
    repeat(first|go_big_quiet_step ((go_at_call 103;exact Calls.grow_of (hcmp _)))|quiet_step ((go_at_call 103;exact Calls.grow_of (hcmp _))))
    refine wpQuiet_nil ?_;intro _ hw_;obtain⟨p,hw_⟩:=hw_;subst hw_;go_wp2_with fail;go_roundw
    case rel=>exact⟨i,h,rfl,by go_num,oM,oM,oM,HS.out.below (below_growBy _ _),HL,Lib.hid (.inr (by rw[hp.out,HX.out.1,HX.out.2];exact c9r HC.out hlv))⟩
    case measure=>first|(simp[intOf];done)|(simp[intOf];omega)
   ·first|with_reducible refine a0e zM zM ?_|with_reducible refine a0g zM zM ?_
    repeat(first|go_big_quiet_step ((go_at_call 103;exact Calls.grow_of (hcmp _)))|quiet_step ((go_at_call 103;exact Calls.grow_of (hcmp _))))
    refine wpQuiet_nil ?_;intro _ hw_;obtain⟨p,hw_⟩:=hw_;subst hw_;go_wp2_with fail;go_roundw
    case rel=>exact⟨h+1,j,by go_num,rfl,oM,oM,hjb,HS.out.below (below_growBy _ _),Lib.hid (.inr (by show ltOf a1j d[mid+m-1-h]! d[h]! =false;rw[hp.out,HX.out.1,HX.out.2];exact c9q HC.out hlv)),HH⟩
    case measure=>first|(simp[intOf];done)|(simp[intOf];omega)
  ·have hgeI:¬(i:Int)<(j:Int):=oM
   obtain rfl:i=j:=oM;obtain⟨e,he⟩:=zE (mid+m-i);have q6':=q6.out;have q7':=q7.out;have hCt:Cut (ltOf a1j) a m b i e d:=by
    rw[<-he];refine d8i swoP HL0.out HR0.out oM oM oM oM (λg1 g2=> ?_) (λg1 g2=> ?_)
    ·rcases HH.out with h|h
     ·omega
     ·exact h
    ·rcases HL.out with h|h
     ·omega
     ·exact h
   have hwe:IntKind.i64.wrap ((mid:Int)+(m:Int)-(i:Int))=(e:Int):=by rw[IntKind.wrap_i64];omega
   have hsm:=hCt.sm;have hme:=hCt.me;have heb:=hCt.eb;have has:=hCt.la;have hmide:i+(e-m)=mid:=oM;replace hCt:=Lib.hid hCt;replace he:=Lib.hid he;clear q6' q7' HL HH HW hw3 hw5;go_upto_region 39 with fail;go_cut [185] (λv wx=>v= .bool (decide (i<m)&&decide (m<e))/\wr=wx)
   case first =>
    by_cases g1:i<m
    ·have g1I:(i:Int)<(m:Int):=oM
     by_cases g2:m<e
     ·have g2I:(m:Int)<(e:Int):=oM
      exact ydo
     ·have g2I:¬(m:Int)<(e:Int):=oM
      exact ydo
    ·have g1I:¬(i:Int)<(m:Int):=oM
     exact yic
   case rest =>
   as_aux_lemma =>
   obtain⟨rfl,rfl⟩:=hcut;obtain⟨c1,hc1⟩:=zE ((decide (i<m)&&decide (m<e)));rw[hc1];go_upto_if 185 with fail;go_cut [24] (λv wx=>v= .int .i64 (e:Nat)/\SoX w0 blk off N n (Rot i m e d) wx)
   case first =>
    cases c1
    ·go_wp2_with fail
     go_meet;refine⟨rfl,.mk HS.out (Rot.none ?_ hsm hme)⟩;simp at hc1;omega
    ·simp only[Bool.and_eq_true,decide_eq_true_eq]at hc1
     obtain⟨g1,g2⟩:=hc1;have hc:=c6h blk off cap N n i m e d (.func (.func 103) #[] #[]) w0 _ HS.out g1 g2 oM hn;go_wp2_with (first
      |(go_at_call 187;(with_reducible refine hc.mono ?_);rintro e5 w1⟨rfl,hx1⟩))
     go_meet;exact⟨rfl,hx1⟩
   case rest =>
   as_aux_lemma =>
   obtain⟨rfl,d1,hS1,hr1⟩:=hcut;clear hc1 hwe;obtain⟨⟨s1,s2,s3,s4⟩,-⟩:=Cut.step (d2:=d1) (d3:=d1) swoP hCt.out HL0.out HR0.out hr1;rw[hmide]at s2 s3;replace hS1:=Lib.hid hS1;replace hr1:=Lib.hid hr1;replace s1:=Lib.hid s1;replace s2:=Lib.hid s2;replace s3:=Lib.hid s3;replace s4:=Lib.hid s4;have him:i<=mid:=oM;have hme2:mid<=e:=oM;have hmb2:mid<b:=oM;have ham2:a<mid:=oM;clear q1 q2 q3 q4 q5 q6 q7 HS hi1 hij hjb hlt hgeI;go_upto_region 41 with fail;go_cut [199] (λv wx=>v= .bool (decide (a<i)&&decide (i<mid))/\wc=wx)
   case first =>
    by_cases g1:a<i
    ·have g1I:(a:Int)<(i:Int):=oM
     by_cases g2:i<mid
     ·have g2I:(i:Int)<(mid:Int):=oM
      exact ydo
     ·have g2I:¬(i:Int)<(mid:Int):=oM
      exact ydo
    ·have g1I:¬(a:Int)<(i:Int):=oM
     exact yic
   case rest =>
   as_aux_lemma =>
   obtain⟨rfl,rfl⟩:=hcut;obtain⟨c1,hc1⟩:=zE ((decide (a<i)&&decide (i<mid)));rw[hc1];go_upto_if 199 with fail;go_cut [24] (λv wx=>v= .int .i64 (e:Nat)/\SoX w0 blk off N n (Srt (ltOf a1j) a mid d1) wx)
   case first =>
    cases c1
    ·go_wp2_with fail
     go_meet;refine⟨rfl,.mk hS1.out (a3h ?_)⟩;have hc2:i=a\/i=mid:=by
      simp at hc1;omega
     rcases hc2 with h|h
     ·have:=s2.out
      rw[h]at this;exact this
     ·have:=s1.out
      rw[h]at this;exact this
    ·simp only[Bool.and_eq_true,decide_eq_true_eq]at hc1
     obtain⟨g1,g2⟩:=hc1;have hc:=ih.out a i mid d1 _ oM hS1.out g1 g2 oM s1.out s2.out;go_wp2_with (first
      |(go_at_call 171;(with_reducible refine hc.mono ?_);rintro e5 w1⟨rfl,hx1⟩))
     go_meet;exact⟨rfl,hx1⟩
   case rest =>
   as_aux_lemma =>
   obtain⟨rfl,d2,hS2,hr2⟩:=hcut;clear hc1;replace hS2:=Lib.hid hS2;have s5:=Lib.hid (SortedIn.outs s3.out hr2.out (.inr (yR _)));have s6:=Lib.hid (SortedIn.outs s4.out hr2.out (.inr hme2));replace hr2:=Lib.hid hr2;clear hS1 s1 s2 s3 s4;go_upto_region 43 with fail;go_cut [213] (λv wx=>v= .bool (decide (mid<e)&&decide (e<b))/\wc=wx)
   case first =>
    by_cases g1:mid<e
    ·have g1I:(mid:Int)<(e:Int):=oM
     by_cases g2:e<b
     ·have g2I:(e:Int)<(b:Int):=oM
      exact ydo
     ·have g2I:¬(e:Int)<(b:Int):=oM
      exact ydo
    ·have g1I:¬(mid:Int)<(e:Int):=oM
     exact yic
   case rest =>
   as_aux_lemma =>
   obtain⟨rfl,rfl⟩:=hcut;obtain⟨c1,hc1⟩:=zE ((decide (mid<e)&&decide (e<b)));rw[hc1];have hend:∀d3,Srt (ltOf a1j) mid b d2 d3->Srt (ltOf a1j) a b d d3:=λd3 h3=>by
    have hx:=(Cut.step (d2:=d2) (d3:=d3) swoP hCt.out HL0.out HR0.out hr1.out).2;rw[hmide]at hx;exact hx hr2.out h3
   replace hend:=Lib.hid hend
   cases c1
   ·have hc2:mid=e\/e=b:=by
     simp at hc1;omega
    have hsrt:Srt (ltOf a1j) mid b d2 d2:=a3h (by
     rcases hc2 with h|h
     ·have:=s6.out
      rw[<-h]at this;exact this
     ·have:=s5.out
      rw[h]at this;exact this)
    replace hsrt:=Lib.hid hsrt;clear hc2 hc1;go_wp2_with fail;go_end0;exact⟨rfl,.mk hS2.out (hend.out _ hsrt.out)⟩
   ·simp only[Bool.and_eq_true,decide_eq_true_eq]at hc1
    obtain⟨g1,g2⟩:=hc1;have hc:=ih.out mid e b d2 _ oM hS2.out g1 g2 hbn s5.out s6.out;go_wp2_with (first
     |(go_at_call 171;(with_reducible refine hc.mono ?_);rintro e5 w1⟨rfl,d3,hS3,hr3⟩))
    go_end0;exact⟨rfl,.mk hS3 (hend.out _ hr3)⟩
theorem a6p (blk off cap N n:Nat)(w0:World)(hn:n<=1000):∀sz,e0u blk off cap N n w0 sz
 |0,a,m,b,d,w,h,_,h1,h2,_,_,_=>by omega
 |sz+1,a,m,b,d,w,h,hW,h1,h2,hb,hL,hR=>by
  by_cases g1:m=a+1
  ·exact d3b blk off cap N n a m b d w0 w hW g1 h2 hb hn hR
  ·by_cases g2:b=m+1
   ·exact d3c blk off cap N n a m b d w0 w hW g2 oM hb hn hL
   ·exact d3d blk off cap N n a m b sz d w0 w (a6p blk off cap N n w0 hn sz) h hW oM oM hb hn hL hR
end
end Go.Proofs.YtfocdbjceedagaaGreatDoor
