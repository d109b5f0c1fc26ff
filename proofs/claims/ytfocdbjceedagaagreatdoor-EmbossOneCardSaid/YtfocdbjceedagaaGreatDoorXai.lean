/-
  Parts.
-/
import Derived.Test.YtfocdbjceedagaaGreatDoorXah
set_option linter.unusedVariables false
set_option linter.unusedSimpArgs false
set_option maxHeartbeats 8000000
set_option maxRecDepth 100000
namespace Go.Proofs.YtfocdbjceedagaaGreatDoor
open Tryz
section
open Go.RowKit Go.Shelf Go.Lib Go.Sort
attribute [local go_sem] Oper.semAt_some
attribute [local go_sem ↓] Go.wp_at_zero Go.wp_at_succ
theorem d3r {i j:Nat}(h:i<j):∃k:Nat,((i:Int)+(j:Int)) / 2=(k:Int)∧i≤k∧k<j:=⟨(i+j) / 2,by omega,by omega,by omega⟩
theorem c4m {x y:Pc}{c:Int}(h:a1z x y=c)(hc:¬c<0):ltOf a1z x y=false:=by
 cases h1:ltOf a1z x y with
 |false=>rfl
 |true=>exact absurd ((c7c x y).1 h1) (by rw[h];exact hc)
theorem c4n {x y:Pc}{c:Int}(h:a1z x y=c)(hc:c<0):ltOf a1z x y=true:=(c7c x y).2 (by rw[h];exact hc)
theorem c7s (blk off cap N n a m b:Nat)(d:Array Pc)(w0 w:World)(hW:SoW w0 blk off N n d w)(hm:m=a+1)(hmb:m<b)(hbn:b≤n)(hn:n≤1000)(hR:SortedIn (ltOf a1z) m b d) :
 Calls prog 171 #[.slice (some ⟨blk,off,none⟩) n cap,.int .i64 (a:Nat),.int .i64 (m:Nat),.int .i64 (b:Nat),.func (.func 103) #[] #[]] w fun e w'=>e= .returned (.tuple #[])∧SoX w0 blk off N n (Srt (ltOf a1z) a b d) w':=by
 have mixed:prog.follows .mixedOrders=true:=by kernel_rfl
 have HW:Hid (SoW w0 blk off N n d w):=hW;have HR:=Lib.hid hR;have hsz:=hW.sz;clear hW hR;have hw1:IntKind.i64.wrap ((m:Int)-(a:Int))=1:=by rw[IntKind.wrap_i64];omega
 have hw0:((m:Int)-(a:Int))=1:=by omega
 have han:(a:Int)<(n:Int):=by omega
 replace hm:=Lib.hid hm;go_enter func171,ntmps171;go_wp2_with fail;go_loopw [10,11] (fun vi vj wr=>∃(i j:Nat),vi= .int .i64 (i:Nat)∧vj= .int .i64 (j:Nat)∧m≤i∧i≤j∧j≤b∧Hid (SoW w0 blk off N n d wr)∧Hid (i=m∨ltOf a1z d[i-1]! d[a]! =true)∧Hid (j=b∨ltOf a1z d[j]! d[a]! =false)) (fun vi vj _=>(intOf vj).toNat-(intOf vi).toNat)
 case atStart=>exact⟨m,b,rfl,rfl,by omega,by omega,by omega,HW,Lib.hid (.inl rfl),Lib.hid (.inl rfl)⟩
 case round =>
  obtain⟨i,j,rfl,rfl,hi1,hij,hjb,HS,HL,HH⟩:=hrel;by_cases hlt:i<j
  ·have hltI:(i:Int)<(j:Int):=by omega
   go_upto_region 5 with fail;obtain⟨h,hh,hih,hhj⟩:=d3r hlt;rw[hh];clear hh hltI;have hhn:(h:Int)<(n:Int):=by omega
   have hdz:=HS.out.sz;have hm':=hm.out;obtain⟨xh,hxh⟩:∃x,d[h]! =x:=⟨_,rfl⟩;obtain⟨xa,hxa⟩:∃x,d[a]! =x:=⟨_,rfl⟩;obtain⟨a0,a1,a2,a3,a4,a5,a6⟩:=hxh▸HS.out.row.pc (j:=h) (by omega);obtain⟨b0,b1,b2,b3,b4,b5,b6⟩:=hxa▸HS.out.row.pc (j:=a) (by omega);have HX:Hid (d[h]! =xh∧d[a]! =xa):=⟨hxh,hxa⟩;obtain⟨cv,hcv⟩:∃c,a1z xh xa=c:=⟨_,rfl⟩;have hcmp:∀W,Calls prog 103 #[plV xh,plV xa] W fun e w'=>e= .returned (.int .i64 cv)∧Below W.heap.size W w':=fun W=>by rw[←hcv];exact a5m xh xa W
   have HC:Hid (a1z xh xa=cv):=hcv;clear hxh hxa hcv hm';obtain⟨i1,x1,y1,cl1,n1,wt1,d1⟩:=xh;obtain⟨i2,x2,y2,cl2,n2,wt2,d2⟩:=xa;simp only at a0 a1 a2 a3 a4 a5 a6 b0 b1 b2 b3 b4 b5 b6;by_cases hlv:cv<0
   ·first|with_reducible refine a0t (by kernel_rfl) (by kernel_rfl) ?_|with_reducible refine a0v (by kernel_rfl) (by kernel_rfl) ?_
    repeat (first|go_big_quiet_step ((go_at_call 103;exact Calls.grow_of (hcmp _)))|quiet_step ((go_at_call 103;exact Calls.grow_of (hcmp _))))
    refine wpQuiet_nil ?_;intro _ hw_;obtain⟨p,hw_⟩:=hw_;subst hw_;go_wp2_with fail;go_roundw
    case rel=>exact⟨h+1,j,by go_num,rfl,by omega,by omega,hjb,HS.out.below (below_growBy _ _),Lib.hid (.inr (by show ltOf a1z d[h]! d[a]! =true;rw[HX.out.1,HX.out.2];exact c4n HC.out hlv)),HH⟩
    case measure=>first|(simp[intOf];done)|(simp[intOf];omega)
   ·first|with_reducible refine a0t (by kernel_rfl) (by kernel_rfl) ?_|with_reducible refine a0v (by kernel_rfl) (by kernel_rfl) ?_
    repeat (first|go_big_quiet_step ((go_at_call 103;exact Calls.grow_of (hcmp _)))|quiet_step ((go_at_call 103;exact Calls.grow_of (hcmp _))))
    refine wpQuiet_nil ?_;intro _ hw_;obtain⟨p,hw_⟩:=hw_;subst hw_;go_wp2_with fail;go_roundw
    case rel=>exact⟨i,h,rfl,by go_num,by omega,by omega,by omega,HS.out.below (below_growBy _ _),HL,Lib.hid (.inr (by rw[HX.out.1,HX.out.2];exact c4m HC.out hlv))⟩
    case measure=>first|(simp[intOf];done)|(simp[intOf];omega)
  ·have hgeI:¬(i:Int)<(j:Int):=by omega
   obtain rfl:i=j:=by omega
   have hm':=hm.out;have hwi:IntKind.i64.wrap ((i:Int)-1)=(i:Int)-1:=by rw[IntKind.wrap_i64];omega
   go_wp2_with fail;go_loopw [13] (fun vk wr=>∃(k:Nat) (dk:Array Pc),vk= .int .i64 (k:Nat)∧a≤k∧k+1≤i∧Hid (SoW w0 blk off N n dk wr)∧Hid (Rot a (a+1) (k+1) d dk)) (fun vk _=>i-(intOf vk).toNat)
   case atStart=>exact⟨a,d,rfl,by omega,by omega,HS,Lib.hid (Rot.none (.inr rfl) (by omega) (by omega))⟩
   case round =>
    obtain⟨k,dk,rfl,hak,hki,HK,HO⟩:=hrel;by_cases hkl:k+1<i
    ·have hkI:(k:Int)<(i:Int)-1:=by omega
     obtain⟨xp,hxp⟩:∃x,dk[k]! =x:=⟨_,rfl⟩;obtain⟨xq,hxq⟩:∃x,dk[k+1]! =x:=⟨_,rfl⟩;have hdz:=HK.out.sz;obtain⟨a0,a1,a2,a3,a4,a5,a6⟩:=hxp▸HK.out.row.pc (j:=k) (by omega);obtain⟨b0,b1,b2,b3,b4,b5,b6⟩:=hxq▸HK.out.row.pc (j:=k+1) (by omega);obtain⟨f0,f1,f2,f3,f4,f5,f6⟩:=HK.out.row.pf (j:=k) (by omega);obtain⟨g0,g1,g2,g3,g4,g5,g6⟩:=HK.out.row.pf (j:=k+1) (by omega);have HX:Hid (dk[k]! =xp∧dk[k+1]! =xq):=⟨hxp,hxq⟩;have HJ3:=Lib.hid (HK.out.swapG (p:=k) (q:=k+1) (by omega) (by omega));have HO2:=Lib.hid (HO.out.right hak (by omega));clear hxp hxq;obtain⟨i1,x1,y1,cl1,n1,wt1,d1⟩:=xp;obtain⟨i2,x2,y2,cl2,n2,wt2,d2⟩:=xq;have hw2:IntKind.i64.wrap ((k:Int)+1)=(k:Int)+1:=by rw[IntKind.wrap_i64];omega
     have hp1:(k:Int)<(n:Int):=by omega
     have hq0:(0:Int)≤(k:Int)+1:=by omega
     have hq1:(k:Int)+1<(n:Int):=by omega
     have hqe:((k:Int)+1).toNat=k+1:=by omega
     simp only at a0 a1 a2 a3 a4 a5 a6 b0 b1 b2 b3 b4 b5 b6;clear hm' hw0 hw1;go_upto_region 11 with fail;go_big_region_o
     all_goals go_wp2_with fail
     go_roundw
     case rel =>
      refine⟨k+1,swp dk k (k+1),by go_num,by omega,by omega,?_,HO2⟩;have h3:=HJ3.out;unfold Go.Proofs.YtfocdbjceedagaaGreatDoor.swapG at h3;rw[HX.out.1,HX.out.2,a7i] at h3;exact Lib.hid h3.drew
     case measure=>first|(simp[intOf];done)|(simp[intOf];omega)
    ·have hkI:¬(k:Int)<(i:Int)-1:=by omega
     have hRr:=HR.out;rw[hm'] at hRr;have hfin:=Lib.hid (c7r c7p hRr (d1:=dk) (show a+1≤k+1 by omega) (show k+1≤b by omega) (by rw[show k+1=i by omega];rw[←hm'];exact HL.out) (by rw[show k+1=i by omega];exact HH.out) HO.out);clear hRr;go_wp2_with fail;refine bodyPost_ret (results_none rfl _ _ _) rfl ?_;exact⟨rfl,.mk HK.out hfin.out⟩
theorem c7t (blk off cap N n a m b:Nat)(d:Array Pc)(w0 w:World)(hW:SoW w0 blk off N n d w)(hm:b=m+1)(ham:a+1<m)(hbn:b≤n)(hn:n≤1000)(hL:SortedIn (ltOf a1z) a m d) :
 Calls prog 171 #[.slice (some ⟨blk,off,none⟩) n cap,.int .i64 (a:Nat),.int .i64 (m:Nat),.int .i64 (b:Nat),.func (.func 103) #[] #[]] w fun e w'=>e= .returned (.tuple #[])∧SoX w0 blk off N n (Srt (ltOf a1z) a b d) w':=by
 have mixed:prog.follows .mixedOrders=true:=by kernel_rfl
 have HW:Hid (SoW w0 blk off N n d w):=hW;have HR:=Lib.hid hL;have hsz:=hW.sz;clear hW hL;have hw1:IntKind.i64.wrap ((b:Int)-(m:Int))=1:=by rw[IntKind.wrap_i64];omega
 have hw0:((b:Int)-(m:Int))=1:=by omega
 have hw3:IntKind.i64.wrap ((m:Int)-(a:Int))=(m:Int)-(a:Int):=by rw[IntKind.wrap_i64];omega
 have hw2:¬((m:Int)-(a:Int))=1:=by omega
 have hmn:(m:Int)<(n:Int):=by omega
 replace hm:=Lib.hid hm;go_enter func171,ntmps171;go_wp2_with fail;go_loopw [14,15] (fun vi vj wr=>∃(i j:Nat),vi= .int .i64 (i:Nat)∧vj= .int .i64 (j:Nat)∧a≤i∧i≤j∧j≤m∧Hid (SoW w0 blk off N n d wr)∧Hid (i=a∨ltOf a1z d[m]! d[i-1]! =false)∧Hid (j=m∨ltOf a1z d[m]! d[j]! =true)) (fun vi vj _=>(intOf vj).toNat-(intOf vi).toNat)
 case atStart=>exact⟨a,m,rfl,rfl,by omega,by omega,by omega,HW,Lib.hid (.inl rfl),Lib.hid (.inl rfl)⟩
 case round =>
  obtain⟨i,j,rfl,rfl,hi1,hij,hjb,HS,HL,HH⟩:=hrel;by_cases hlt:i<j
  ·have hltI:(i:Int)<(j:Int):=by omega
   go_upto_region 17 with fail;obtain⟨h,hh,hih,hhj⟩:=d3r hlt;rw[hh];clear hh hltI;have hhn:(h:Int)<(n:Int):=by omega
   have hdz:=HS.out.sz;obtain⟨xh,hxh⟩:∃x,d[h]! =x:=⟨_,rfl⟩;obtain⟨xa,hxa⟩:∃x,d[m]! =x:=⟨_,rfl⟩;obtain⟨a0,a1,a2,a3,a4,a5,a6⟩:=hxh▸HS.out.row.pc (j:=h) (by omega);obtain⟨b0,b1,b2,b3,b4,b5,b6⟩:=hxa▸HS.out.row.pc (j:=m) (by omega);have HX:Hid (d[h]! =xh∧d[m]! =xa):=⟨hxh,hxa⟩;obtain⟨cv,hcv⟩:∃c,a1z xa xh=c:=⟨_,rfl⟩;have hcmp:∀W,Calls prog 103 #[plV xa,plV xh] W fun e w'=>e= .returned (.int .i64 cv)∧Below W.heap.size W w':=fun W=>by rw[←hcv];exact a5m xa xh W
   have HC:Hid (a1z xa xh=cv):=hcv;clear hxh hxa hcv;obtain⟨i1,x1,y1,cl1,n1,wt1,d1⟩:=xh;obtain⟨i2,x2,y2,cl2,n2,wt2,d2⟩:=xa;simp only at a0 a1 a2 a3 a4 a5 a6 b0 b1 b2 b3 b4 b5 b6;by_cases hlv:cv<0
   ·first|with_reducible refine a0t (by kernel_rfl) (by kernel_rfl) ?_|with_reducible refine a0v (by kernel_rfl) (by kernel_rfl) ?_
    repeat (first|go_big_quiet_step ((go_at_call 103;exact Calls.grow_of (hcmp _)))|quiet_step ((go_at_call 103;exact Calls.grow_of (hcmp _))))
    refine wpQuiet_nil ?_;intro _ hw_;obtain⟨p,hw_⟩:=hw_;subst hw_;go_wp2_with fail;go_roundw
    case rel=>exact⟨i,h,rfl,by go_num,by omega,by omega,by omega,HS.out.below (below_growBy _ _),HL,Lib.hid (.inr (by rw[HX.out.1,HX.out.2];exact c4n HC.out hlv))⟩
    case measure=>first|(simp[intOf];done)|(simp[intOf];omega)
   ·first|with_reducible refine a0t (by kernel_rfl) (by kernel_rfl) ?_|with_reducible refine a0v (by kernel_rfl) (by kernel_rfl) ?_
    repeat (first|go_big_quiet_step ((go_at_call 103;exact Calls.grow_of (hcmp _)))|quiet_step ((go_at_call 103;exact Calls.grow_of (hcmp _))))
    refine wpQuiet_nil ?_;intro _ hw_;obtain⟨p,hw_⟩:=hw_;subst hw_;go_wp2_with fail;go_roundw
    case rel=>exact⟨h+1,j,by go_num,rfl,by omega,by omega,hjb,HS.out.below (below_growBy _ _),Lib.hid (.inr (by show ltOf a1z d[m]! d[h]! =false;rw[HX.out.1,HX.out.2];exact c4m HC.out hlv)),HH⟩
    case measure=>first|(simp[intOf];done)|(simp[intOf];omega)
  ·have hgeI:¬(i:Int)<(j:Int):=by omega
   obtain rfl:i=j:=by omega
   go_wp2_with fail;go_loopw [17] (fun vk wr=>∃(k:Nat) (dk:Array Pc),vk= .int .i64 (k:Nat)∧i≤k∧k≤m∧Hid (SoW w0 blk off N n dk wr)∧Hid (Rot k m (m+1) d dk)) (fun vk _=>(intOf vk).toNat)
   case atStart=>exact⟨m,d,rfl,by omega,by omega,HS,Lib.hid (Rot.none (.inl rfl) (by omega) (by omega))⟩
   case round =>
    obtain⟨k,dk,rfl,hik,hkm,HK,HO⟩:=hrel;by_cases hkl:i<k
    ·obtain⟨k,rfl⟩:∃kp,k=kp+1:=⟨k-1,by omega⟩
     have hkI:(i:Int)<(k:Int)+1:=by omega
     obtain⟨xp,hxp⟩:∃x,dk[k+1]! =x:=⟨_,rfl⟩;obtain⟨xq,hxq⟩:∃x,dk[k]! =x:=⟨_,rfl⟩;have hdz:=HK.out.sz;obtain⟨a0,a1,a2,a3,a4,a5,a6⟩:=hxp▸HK.out.row.pc (j:=k+1) (by omega);obtain⟨b0,b1,b2,b3,b4,b5,b6⟩:=hxq▸HK.out.row.pc (j:=k) (by omega);obtain⟨f0,f1,f2,f3,f4,f5,f6⟩:=HK.out.row.pf (j:=k+1) (by omega);obtain⟨g0,g1,g2,g3,g4,g5,g6⟩:=HK.out.row.pf (j:=k) (by omega);have HX:Hid (dk[k+1]! =xp∧dk[k]! =xq):=⟨hxp,hxq⟩;have HJ3:=Lib.hid (HK.out.swapG (p:=k+1) (q:=k) (by omega) (by omega));have hm':=hm.out;have HO2:=Lib.hid (HO.out.left (by omega) (by omega));clear hxp hxq hm';obtain⟨i1,x1,y1,cl1,n1,wt1,d1⟩:=xp;obtain⟨i2,x2,y2,cl2,n2,wt2,d2⟩:=xq;have hwp:IntKind.i64.wrap (k:Int)=(k:Int):=by rw[IntKind.wrap_i64];omega
     have hp1:(k:Int)<(n:Int):=by omega
     have hq0:(0:Int)≤(k:Int)+1:=by omega
     have hq1:(k:Int)+1<(n:Int):=by omega
     have hqe:((k:Int)+1).toNat=k+1:=by omega
     simp only at a0 a1 a2 a3 a4 a5 a6 b0 b1 b2 b3 b4 b5 b6;clear hw0 hw1 hw2 hw3;go_upto_region 23 with fail;go_big_region_o
     all_goals go_wp2_with fail
     go_roundw
     case rel =>
      refine⟨k,swp dk (k+1) k,by go_num,by omega,by omega,?_,HO2⟩;have h3:=HJ3.out;unfold Go.Proofs.YtfocdbjceedagaaGreatDoor.swapG at h3;rw[HX.out.1,HX.out.2,a7i] at h3;exact Lib.hid h3.drew
     case measure=>first|(simp[intOf];done)|(simp[intOf];omega)
    ·have hkI:¬(i:Int)<(k:Int):=by omega
     obtain rfl:i=k:=by omega
     have hfin:=c4j c7p HR.out (d1:=dk) hi1 hkm HL.out HH.out HO.out;rw[←hm.out] at hfin;replace hfin:=Lib.hid hfin;go_wp2_with fail;refine bodyPost_ret (results_none rfl _ _ _) rfl ?_;exact⟨rfl,.mk HK.out hfin.out⟩
end
end Go.Proofs.YtfocdbjceedagaaGreatDoor
