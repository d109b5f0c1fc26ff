/-
  Parts.
-/
import Derived.Test.YteijfnkidefekaaGreatEaj
import Derived.Test.YteijfnkidefekaaGreatEal
set_option linter.unusedVariables false
set_option linter.unusedSimpArgs false
set_option linter.unusedSectionVars false
set_option maxHeartbeats 16000000
set_option maxRecDepth 100000
namespace Go.Proofs.YteijfnkidefekaaGreat
open Tryz
section
open Go.RowKit Go.Shelf Go.Lib Go.Sort
variable{blk j off:Nat}{W:Wd}
abbrev vWq (p:Wq):Value:= .agg #[.int .i64 p.id,.slice p.la p.ln p.lc,.int .i64 p.lvl,.string p.cls,.string p.nm,.bool p.st,.int .i64 p.wt,.int .i64 p.ds]
structure CWq (W:Wd)(b o:Nat)(p:Wq):Prop where
 c0:W.cell? ⟨b,o,none⟩=some (.int .i64 p.id)
 c1:W.cell? ⟨b,o+1,none⟩=some (.slice p.la p.ln p.lc)
 c2:W.cell? ⟨b,o+2,none⟩=some (.int .i64 p.lvl)
 c3:W.cell? ⟨b,o+3,none⟩=some (.string p.cls)
 c4:W.cell? ⟨b,o+4,none⟩=some (.string p.nm)
 c5:W.cell? ⟨b,o+5,none⟩=some (.bool p.st)
 c6:W.cell? ⟨b,o+6,none⟩=some (.int .i64 p.wt)
 c7:W.cell? ⟨b,o+7,none⟩=some (.int .i64 p.ds)
structure FWq (W:Wd)(b o:Nat):Prop where
 f0:W.frozen? ⟨b,o,none⟩=false
 f1:W.frozen? ⟨b,o+1,none⟩=false
 f2:W.frozen? ⟨b,o+2,none⟩=false
 f3:W.frozen? ⟨b,o+3,none⟩=false
 f4:W.frozen? ⟨b,o+4,none⟩=false
 f5:W.frozen? ⟨b,o+5,none⟩=false
 f6:W.frozen? ⟨b,o+6,none⟩=false
 f7:W.frozen? ⟨b,o+7,none⟩=false
theorem RowE.cWq {d:Array Wq}(h:RowE wqE W blk off d)(hj:j<d.size):CWq W blk (off+j*8) d[j]! :=
 ⟨(HoldsK.cell h hj (c:=0) jM).1,(HoldsK.cell h hj (c:=1) jM).1,(HoldsK.cell h hj (c:=2) jM).1,(HoldsK.cell h hj (c:=3) jM).1,(HoldsK.cell h hj (c:=4) jM).1,(HoldsK.cell h hj (c:=5) jM).1,(HoldsK.cell h hj (c:=6) jM).1,(HoldsK.cell h hj (c:=7) jM).1⟩
theorem RowE.fWq {d:Array Wq}(h:RowE wqE W blk off d)(hj:j<d.size):FWq W blk (off+j*8) :=
 ⟨(HoldsK.cell h hj (c:=0) jM).2,(HoldsK.cell h hj (c:=1) jM).2,(HoldsK.cell h hj (c:=2) jM).2,(HoldsK.cell h hj (c:=3) jM).2,(HoldsK.cell h hj (c:=4) jM).2,(HoldsK.cell h hj (c:=5) jM).2,(HoldsK.cell h hj (c:=6) jM).2,(HoldsK.cell h hj (c:=7) jM).2⟩
theorem b8h (W:Wd)(blk o1 o2:Nat)(e0:Int)(e1:Option Addr)(e2:Nat)(e3:Nat)(e4:List a3v)(e5:Int)(e6:Bw)(e7:Bw)(e8:Bool)(e9:Int)(bH:Int)(u0:Int)(u1:Option Addr)(u2:Nat)(u3:Nat)(u4:List a3v)(u5:Int)(u6:Bw)(u7:Bw)(u8:Bool)(u9:Int)(u10:Int):
 (W.setCells blk o1 (wqE.enc ⟨u0,u1,u2,u3,u4,u5,u6,u7,u8,u9,u10⟩)).setCells blk o2 (wqE.enc ⟨e0,e1,e2,e3,e4,e5,e6,e7,e8,e9,bH⟩)=((((((((((((((((W.setCell ⟨blk,o1,none⟩ (.int .i64 u0)).setCell ⟨blk,o1+1,none⟩ (.slice u1 u2 u3)).setCell ⟨blk,o1+2,none⟩ (.int .i64 u5)).setCell ⟨blk,o1+3,none⟩ (.string u6)).setCell ⟨blk,o1+4,none⟩ (.string u7)).setCell ⟨blk,o1+5,none⟩ (.bool u8)).setCell ⟨blk,o1+6,none⟩ (.int .i64 u9)).setCell ⟨blk,o1+7,none⟩ (.int .i64 u10)).setCell ⟨blk,o2,none⟩ (.int .i64 e0)).setCell ⟨blk,o2+1,none⟩ (.slice e1 e2 e3)).setCell ⟨blk,o2+2,none⟩ (.int .i64 e5)).setCell ⟨blk,o2+3,none⟩ (.string e6)).setCell ⟨blk,o2+4,none⟩ (.string e7)).setCell ⟨blk,o2+5,none⟩ (.bool e8)).setCell ⟨blk,o2+6,none⟩ (.int .i64 e9)).setCell ⟨blk,o2+7,none⟩ (.int .i64 bH)):=by
 exact yhf
def b0u (X blk:Nat)(w0:Wd):Prop:=∀(x y:Wq) (W:Wd),w0.grownBy W (some blk)->Zc prog 66 #[vWq x,vWq y,.pointer (some ⟨X,0,none⟩)] W (.int .i64 (a0h Wq.id x y))
theorem b4z (blk off cap N n a b k:Nat)(d:Array Wq)(fv:Vu)(w0 w:Wd)(hW:SoE wqE w0 blk off N n d w)(bq:a+k<=b)(bz:b+k<=n)(hn:n<=1000):
 Calls prog 158 #[.slice (some ⟨blk,off,none⟩) n cap,.int .i64 (a:Nat),.int .i64 (b:Nat),.int .i64 (k:Nat),fv] w λe w'=>e= .returned (.tuple #[])/\SoXE wqE w0 blk off N n (SwR a b k d) w':=by
 have mixed:prog.follows .mixedOrders=true:=by kernel_rfl
 have HW:Hid (SoE wqE w0 blk off N n d w):=hW;have aM:=hW.sz;clear hW;go_enter func158,ntmps158;go_wp2_with fail;go_loopw [10] (λvi wr=>∃(i:Nat) (dk:Array Wq),vi= .int .i64 (i:Nat)/\i<=k/\Hid (SoE wqE w0 blk off N n dk wr)/\Hid (SwR a b i d dk)) (λvi _=>k+1-(intOf vi).toNat)
 case atStart=>exact yhz
 case round =>
  obtain⟨i,dk,rfl,o7,HR,HS⟩:=hrel;by_cases ab:i<k
  ·have aj:(i:Int)<(k:Int):=xM
   have fQ:a+i<n:=xM;have tt:b+i<n:=xM;obtain⟨xp,aY⟩:=zE (dk[a+i]!);obtain⟨xq,bJ⟩:=zE (dk[b+i]!);have dD:=HR.out.sz;obtain⟨a0,a1,a2,a3,a4,a5,a6,a7⟩:=aY▸HR.out.row.cWq (j:=a+i) xM;obtain⟨b0,b1,b2,b3,b4,b5,b6,b7⟩:=bJ▸HR.out.row.cWq (j:=b+i) xM;obtain⟨f0,f1,f2,f3,f4,f5,f6,f7⟩:=HR.out.row.fWq (j:=a+i) xM;obtain⟨g0,g1,g2,g3,g4,g5,g6,g7⟩:=HR.out.row.fWq (j:=b+i) xM;have HX:Hid (dk[a+i]! =xp/\dk[b+i]! =xq):=⟨aY,bJ⟩;have gU:=Lib.hid (HR.out.swap a6d fQ tt);have tu:=Lib.hid (HS.out.step xM xM);clear aY bJ;obtain⟨e0,e1,e2,e3,e4,e5,e6,e7,e8,e9,bH⟩:=xp;obtain⟨u0,u1,u2,u3,u4,u5,u6,u7,u8,u9,u10⟩:=xq;have bB:IntKind.i64.wrap ((a:Int)+(i:Int))=(a:Int)+(i:Int):=by rw[IntKind.wrap_i64];omega
   have dQ:IntKind.i64.wrap ((b:Int)+(i:Int))=(b:Int)+(i:Int):=by rw[IntKind.wrap_i64];omega
   have gW:(0:Int)<=(a:Int)+(i:Int):=xM;have nD:(a:Int)+(i:Int)<(n:Int):=xM;have iG:(0:Int)<=(b:Int)+(i:Int):=xM;have gY:(b:Int)+(i:Int)<(n:Int):=xM;have vH:((a:Int)+(i:Int)).toNat=a+i:=xM;have lu:((b:Int)+(i:Int)).toNat=b+i:=xM;simp only at a0 a1 a2 a3 a4 a5 a6 a7 b0 b1 b2 b3 b4 b5 b6 b7;go_upto_region 3 with fail;go_big_region_o
   all_goals go_wp2_with fail
   go_roundw
   case rel =>
    refine⟨i+1,swp dk (a+i) (b+i),by go_num,xM,?_,tu⟩;exact ydm
   case measure=>exact yae
  ·exact ydg
theorem c3q (blk off cap N n a m b:Nat)(d:Array Wq)(fv:Vu)(w0 w:Wd)(hW:SoE wqE w0 blk off N n d w)(mu:a<m)(jE:m<b)(bz:b<=n)(hn:n<=1000):
 Calls prog 145 #[.slice (some ⟨blk,off,none⟩) n cap,.int .i64 (a:Nat),.int .i64 (m:Nat),.int .i64 (b:Nat),fv] w λe w'=>e= .returned (.tuple #[])/\SoXE wqE w0 blk off N n (Rot a m b d) w':=by
 have HW:Hid (SoE wqE w0 blk off N n d w):=hW;clear hW;have bB:IntKind.i64.wrap ((m:Int)-(a:Int))=((m-a:Nat):Int):=by rw[IntKind.wrap_i64];omega
 have dQ:IntKind.i64.wrap ((b:Int)-(m:Int))=((b-m:Nat):Int):=by rw[IntKind.wrap_i64];omega
 go_enter func145,ntmps145;go_wp2_with fail;go_loopw [10,11] (λvi vj wr=>∃(i j:Nat) (dk:Array Wq),vi= .int .i64 (i:Nat)/\vj= .int .i64 (j:Nat)/\1<=i/\1<=j/\Hid (SoE wqE w0 blk off N n dk wr)/\Hid (RoI a m b i j d dk)) (λvi vj _=>(intOf vi).toNat+(intOf vj).toNat)
 case atStart=>exact yfa
 case round =>
  obtain⟨i,j,dk,rfl,rfl,cq,mV,HR,HI⟩:=hrel;have bV:=HI.out.i0;have kY:=HI.out.j0;have tx:IntKind.i64.wrap ((m:Int)-(i:Int))=((m-i:Nat):Int):=by rw[IntKind.wrap_i64];omega
  rcases Nat.lt_trichotomy i j with ab|heq|hgt
  ·have an:¬(i:Int)=(j:Int):=xM
   have DK:¬(j:Int)<(i:Int):=xM;have AP:IntKind.i64.wrap ((m:Int)+(j:Int))=(m:Int)+(j:Int):=by rw[IntKind.wrap_i64];omega
   have j5:IntKind.i64.wrap ((m:Int)+(j:Int)-(i:Int))=((m+j-i:Nat):Int):=by rw[IntKind.wrap_i64];omega
   have tA:IntKind.i64.wrap ((j:Int)-(i:Int))=((j-i:Nat):Int):=by rw[IntKind.wrap_i64];omega
   have hc:=b4z blk off cap N n (m-i) (m+j-i) i dk fv w0 wr HR.out xM xM hn;go_wp2_with (first
    |(go_at_call 158;(with_reducible refine hc.mono ?_);rintro e w1⟨rfl,⟨d1,eN,aN⟩⟩))
   exact ycx
  ·subst heq
   have hc:=b4z blk off cap N n (m-i) m i dk fv w0 wr HR.out xM xM hn;go_wp2_with (first
    |(go_at_call 158;(with_reducible refine hc.mono ?_);rintro e w1⟨rfl,⟨d1,eN,aN⟩⟩))
   exact yhn
  ·have an:¬(i:Int)=(j:Int):=xM
   have DL:(j:Int)<(i:Int):=xM;have tA:IntKind.i64.wrap ((i:Int)-(j:Int))=((i-j:Nat):Int):=by rw[IntKind.wrap_i64];omega
   have hc:=b4z blk off cap N n (m-i) m j dk fv w0 wr HR.out xM xM hn;go_wp2_with (first
    |(go_at_call 158;(with_reducible refine hc.mono ?_);rintro e w1⟨rfl,⟨d1,eN,aN⟩⟩))
   exact ycy
theorem c7f (blk off cap N n a m b:Nat)(d:Array Wq)(w0 w:Wd)(X:Nat)(hX:b0u X blk w0)(hW:SoE wqE w0 blk off N n d w)(hm:m=a+1)(jE:m<b)(bz:b<=n)(hn:n<=1000)(hR:SortedIn (ltOf (a0h Wq.id)) m b d):
 Calls prog 123 #[.slice (some ⟨blk,off,none⟩) n cap,.int .i64 (a:Nat),.int .i64 (m:Nat),.int .i64 (b:Nat),.func (.func 66) #[] #[.pointer (some ⟨X,0,none⟩)]] w λe w'=>e= .returned (.tuple #[])/\SoXE wqE w0 blk off N n (Srt (ltOf (a0h Wq.id)) a b d) w':=by
 have mixed:prog.follows .mixedOrders=true:=by kernel_rfl
 have HW:Hid (SoE wqE w0 blk off N n d w):=hW;have HR:=Lib.hid hR;have aM:=hW.sz;clear hW hR;have bB:IntKind.i64.wrap ((m:Int)-(a:Int))=1:=by rw[IntKind.wrap_i64];omega
 have gX:((m:Int)-(a:Int))=1:=xM;have eT:(a:Int)<(n:Int):=xM;replace hm:=Lib.hid hm;go_enter func123,ntmps123;go_wp2_with fail;go_loopw [10,11] (λvi vj wr=>∃(i j:Nat),vi= .int .i64 (i:Nat)/\vj= .int .i64 (j:Nat)/\m<=i/\i<=j/\j<=b/\Hid (SoE wqE w0 blk off N n d wr)/\Hid (i=m\/ltOf (a0h Wq.id) d[i-1]! d[a]! =true)/\Hid (j=b\/ltOf (a0h Wq.id) d[j]! d[a]! =false)) (λvi vj _=>(intOf vj).toNat-(intOf vi).toNat)
 case atStart=>exact yfg
 case round =>
  obtain⟨i,j,rfl,rfl,cq,cm,dJ,HS,HL,HH⟩:=hrel;by_cases ab:i<j
  ·have aj:(i:Int)<(j:Int):=xM
   go_upto_region 5 with fail;obtain⟨h,hh,nG,nH⟩:=b9m ab;rw[hh];clear hh aj;have nI:(h:Int)<(n:Int):=xM;have dD:=HS.out.sz;have dG:=hm.out;obtain⟨xh,bK⟩:=zE (d[h]!);obtain⟨xa,bD⟩:=zE (d[a]!);obtain⟨a0,a1,a2,a3,a4,a5,a6,a7⟩:=bK▸HS.out.row.cWq (j:=h) xM;obtain⟨b0,b1,b2,b3,b4,b5,b6,b7⟩:=bD▸HS.out.row.cWq (j:=a) xM;have HX:Hid (d[h]! =xh/\d[a]! =xa):=⟨bK,bD⟩;obtain⟨cv,aZ⟩:=zE ((a0h Wq.id) xh xa);have aS:∀W,w0.grownBy W (some blk)->Zc prog 66 #[vWq xh,vWq xa,.pointer (some ⟨X,0,none⟩)] W (.int .i64 cv):=λW hg=>by rw[<-aZ];exact hX xh xa W hg
   have HC:Hid ((a0h Wq.id) xh xa=cv):=aZ;clear bK bD aZ dG;obtain⟨e0,e1,e2,e3,e4,e5,e6,e7,e8,e9,bH⟩:=xh;obtain⟨u0,u1,u2,u3,u4,u5,u6,u7,u8,u9,u10⟩:=xa;simp only at a0 a1 a2 a3 a4 a5 a6 a7 b0 b1 b2 b3 b4 b5 b6 b7;by_cases aC:cv<0
   ·refine zR6 λp=> ?_
    go_wp2_with fail;go_roundw
    case rel=>exact⟨h+1,j,by go_num,rfl,xM,xM,dJ,HS.out.below (below_growBy _ _),Lib.hid (.inr (by show ltOf (a0h Wq.id) d[h]! d[a]! =true;rw[HX.out.1,HX.out.2];exact a5a HC.out aC)),HH⟩
    case measure=>exact yae
   ·refine zR6 λp=> ?_
    exact ybq
  ·have cL:¬(i:Int)<(j:Int):=xM
   obtain rfl:i=j:=xM;have dG:=hm.out;have tB:IntKind.i64.wrap ((i:Int)-1)=(i:Int)-1:=by rw[IntKind.wrap_i64];omega
   go_wp2_with fail;go_loopw [13] (λvk wr=>∃(k:Nat) (dk:Array Wq),vk= .int .i64 (k:Nat)/\a<=k/\k+1<=i/\Hid (SoE wqE w0 blk off N n dk wr)/\Hid (Rot a (a+1) (k+1) d dk)) (λvk _=>i-(intOf vk).toNat)
   case atStart=>exact ygn
   case round =>
    obtain⟨k,dk,rfl,tC,jb,HK,HO⟩:=hrel;by_cases eK:k+1<i
    ·have iE:(k:Int)<(i:Int)-1:=xM
     obtain⟨xp,aY⟩:=zE (dk[k]!);obtain⟨xq,bJ⟩:=zE (dk[k+1]!);have dD:=HK.out.sz;obtain⟨a0,a1,a2,a3,a4,a5,a6,a7⟩:=aY▸HK.out.row.cWq (j:=k) xM;obtain⟨b0,b1,b2,b3,b4,b5,b6,b7⟩:=bJ▸HK.out.row.cWq (j:=k+1) xM;obtain⟨f0,f1,f2,f3,f4,f5,f6,f7⟩:=HK.out.row.fWq (j:=k) xM;obtain⟨g0,g1,g2,g3,g4,g5,g6,g7⟩:=HK.out.row.fWq (j:=k+1) xM;have HX:Hid (dk[k]! =xp/\dk[k+1]! =xq):=⟨aY,bJ⟩;have gU:=Lib.hid (HK.out.swap a6d (p:=k) (q:=k+1) xM xM);have j6:=Lib.hid (HO.out.right tC xM);clear aY bJ;obtain⟨e0,e1,e2,e3,e4,e5,e6,e7,e8,e9,bH⟩:=xp;obtain⟨u0,u1,u2,u3,u4,u5,u6,u7,u8,u9,u10⟩:=xq;have dQ:IntKind.i64.wrap ((k:Int)+1)=(k:Int)+1:=by rw[IntKind.wrap_i64];omega
     have nD:(k:Int)<(n:Int):=xM;have iG:(0:Int)<=(k:Int)+1:=xM;have gY:(k:Int)+1<(n:Int):=xM;have lu:((k:Int)+1).toNat=k+1:=xM;simp only at a0 a1 a2 a3 a4 a5 a6 a7 b0 b1 b2 b3 b4 b5 b6 b7;clear dG gX bB;go_upto_region 11 with fail;go_big_region_o
     all_goals go_wp2_with fail
     go_roundw
     case rel =>
      refine⟨k+1,swp dk k (k+1),by go_num,xM,xM,?_,j6⟩;exact ydm
     case measure=>exact yae
    ·have iE:¬(k:Int)<(i:Int)-1:=xM
     have j7:=HR.out;rw[dG]at j7;have cK:=Lib.hid (a7r (a2h Wq.id) j7 (d1:=dk) (show a+1<=k+1 by omega) (show k+1<=b by omega) (by rw[show k+1=i by omega];rw[<-dG];exact HL.out) (by rw[show k+1=i by omega];exact HH.out) HO.out);clear j7;exact ybh
theorem c7g (blk off cap N n a m b:Nat)(d:Array Wq)(w0 w:Wd)(X:Nat)(hX:b0u X blk w0)(hW:SoE wqE w0 blk off N n d w)(hm:b=m+1)(mu:a+1<m)(bz:b<=n)(hn:n<=1000)(hL:SortedIn (ltOf (a0h Wq.id)) a m d):
 Calls prog 123 #[.slice (some ⟨blk,off,none⟩) n cap,.int .i64 (a:Nat),.int .i64 (m:Nat),.int .i64 (b:Nat),.func (.func 66) #[] #[.pointer (some ⟨X,0,none⟩)]] w λe w'=>e= .returned (.tuple #[])/\SoXE wqE w0 blk off N n (Srt (ltOf (a0h Wq.id)) a b d) w':=by
 have mixed:prog.follows .mixedOrders=true:=by kernel_rfl
 have HW:Hid (SoE wqE w0 blk off N n d w):=hW;have HR:=Lib.hid hL;have aM:=hW.sz;clear hW hL;have bB:IntKind.i64.wrap ((b:Int)-(m:Int))=1:=by rw[IntKind.wrap_i64];omega
 have gX:((b:Int)-(m:Int))=1:=xM;have gp:IntKind.i64.wrap ((m:Int)-(a:Int))=(m:Int)-(a:Int):=by rw[IntKind.wrap_i64];omega
 have dQ:¬((m:Int)-(a:Int))=1:=xM;have mE:(m:Int)<(n:Int):=xM;replace hm:=Lib.hid hm;go_enter func123,ntmps123;go_wp2_with fail;go_loopw [14,15] (λvi vj wr=>∃(i j:Nat),vi= .int .i64 (i:Nat)/\vj= .int .i64 (j:Nat)/\a<=i/\i<=j/\j<=m/\Hid (SoE wqE w0 blk off N n d wr)/\Hid (i=a\/ltOf (a0h Wq.id) d[m]! d[i-1]! =false)/\Hid (j=m\/ltOf (a0h Wq.id) d[m]! d[j]! =true)) (λvi vj _=>(intOf vj).toNat-(intOf vi).toNat)
 case atStart=>exact yfh
 case round =>
  obtain⟨i,j,rfl,rfl,cq,cm,dJ,HS,HL,HH⟩:=hrel;by_cases ab:i<j
  ·have aj:(i:Int)<(j:Int):=xM
   go_upto_region 17 with fail;obtain⟨h,hh,nG,nH⟩:=b9m ab;rw[hh];clear hh aj;have nI:(h:Int)<(n:Int):=xM;have dD:=HS.out.sz;obtain⟨xh,bK⟩:=zE (d[h]!);obtain⟨xa,bD⟩:=zE (d[m]!);obtain⟨a0,a1,a2,a3,a4,a5,a6,a7⟩:=bK▸HS.out.row.cWq (j:=h) xM;obtain⟨b0,b1,b2,b3,b4,b5,b6,b7⟩:=bD▸HS.out.row.cWq (j:=m) xM;have HX:Hid (d[h]! =xh/\d[m]! =xa):=⟨bK,bD⟩;obtain⟨cv,aZ⟩:=zE ((a0h Wq.id) xa xh);have aS:∀W,w0.grownBy W (some blk)->Zc prog 66 #[vWq xa,vWq xh,.pointer (some ⟨X,0,none⟩)] W (.int .i64 cv):=λW hg=>by rw[<-aZ];exact hX xa xh W hg
   have HC:Hid ((a0h Wq.id) xa xh=cv):=aZ;clear bK bD aZ;obtain⟨e0,e1,e2,e3,e4,e5,e6,e7,e8,e9,bH⟩:=xh;obtain⟨u0,u1,u2,u3,u4,u5,u6,u7,u8,u9,u10⟩:=xa;simp only at a0 a1 a2 a3 a4 a5 a6 a7 b0 b1 b2 b3 b4 b5 b6 b7;by_cases aC:cv<0
   ·refine zR6 λp=> ?_
    exact ybr
   ·refine zR6 λp=> ?_
    go_wp2_with fail;go_roundw
    case rel=>exact⟨h+1,j,by go_num,rfl,xM,xM,dJ,HS.out.below (below_growBy _ _),Lib.hid (.inr (by show ltOf (a0h Wq.id) d[m]! d[h]! =false;rw[HX.out.1,HX.out.2];exact a5t HC.out aC)),HH⟩
    case measure=>exact yae
  ·have cL:¬(i:Int)<(j:Int):=xM
   obtain rfl:i=j:=xM;go_wp2_with fail;go_loopw [17] (λvk wr=>∃(k:Nat) (dk:Array Wq),vk= .int .i64 (k:Nat)/\i<=k/\k<=m/\Hid (SoE wqE w0 blk off N n dk wr)/\Hid (Rot k m (m+1) d dk)) (λvk _=>(intOf vk).toNat)
   case atStart=>exact ygo
   case round =>
    obtain⟨k,dk,rfl,o7,rK,HK,HO⟩:=hrel;by_cases eK:i<k
    ·obtain⟨k,rfl⟩:∃kp,k=kp+1:=⟨k-1,xM⟩
     have iE:(i:Int)<(k:Int)+1:=xM;obtain⟨xp,aY⟩:=zE (dk[k+1]!);obtain⟨xq,bJ⟩:=zE (dk[k]!);have dD:=HK.out.sz;obtain⟨a0,a1,a2,a3,a4,a5,a6,a7⟩:=aY▸HK.out.row.cWq (j:=k+1) xM;obtain⟨b0,b1,b2,b3,b4,b5,b6,b7⟩:=bJ▸HK.out.row.cWq (j:=k) xM;obtain⟨f0,f1,f2,f3,f4,f5,f6,f7⟩:=HK.out.row.fWq (j:=k+1) xM;obtain⟨g0,g1,g2,g3,g4,g5,g6,g7⟩:=HK.out.row.fWq (j:=k) xM;have HX:Hid (dk[k+1]! =xp/\dk[k]! =xq):=⟨aY,bJ⟩;have gU:=Lib.hid (HK.out.swap a6d (p:=k+1) (q:=k) xM xM);have dG:=hm.out;have j6:=Lib.hid (HO.out.left xM xM);clear aY bJ dG;obtain⟨e0,e1,e2,e3,e4,e5,e6,e7,e8,e9,bH⟩:=xp;obtain⟨u0,u1,u2,u3,u4,u5,u6,u7,u8,u9,u10⟩:=xq;have mF:IntKind.i64.wrap (k:Int)=(k:Int):=by rw[IntKind.wrap_i64];omega
     have nD:(k:Int)<(n:Int):=xM;have iG:(0:Int)<=(k:Int)+1:=xM;have gY:(k:Int)+1<(n:Int):=xM;have lu:((k:Int)+1).toNat=k+1:=xM;simp only at a0 a1 a2 a3 a4 a5 a6 a7 b0 b1 b2 b3 b4 b5 b6 b7;clear gX bB dQ gp;go_upto_region 23 with fail;go_big_region_o
     all_goals go_wp2_with fail
     go_roundw
     case rel =>
      refine⟨k,swp dk (k+1) k,by go_num,xM,xM,?_,j6⟩;exact ydm
     case measure=>exact yae
    ·have iE:¬(i:Int)<(k:Int):=xM
     obtain rfl:i=k:=xM;have cK:=a5n (a2h Wq.id) HR.out (d1:=dk) cq rK HL.out HH.out HO.out;exact yfp
def c5a (X blk off cap N n:Nat)(w0:Wd)(sz:Nat):Prop:=∀(a m b:Nat) (d:Array Wq) (w:Wd),b-a<=sz->SoE wqE w0 blk off N n d w->a<m->m<b->b<=n->SortedIn (ltOf (a0h Wq.id)) a m d->SortedIn (ltOf (a0h Wq.id)) m b d ->
    Calls prog 123 #[.slice (some ⟨blk,off,none⟩) n cap,.int .i64 (a:Nat),.int .i64 (m:Nat),.int .i64 (b:Nat),.func (.func 66) #[] #[.pointer (some ⟨X,0,none⟩)]] w λe w'=>e= .returned (.tuple #[])/\SoXE wqE w0 blk off N n (Srt (ltOf (a0h Wq.id)) a b d) w'
theorem c7h (blk off cap N n a m b sz:Nat)(d:Array Wq)(w0 w:Wd)(X:Nat)(hX:b0u X blk w0)(ih:c5a X blk off cap N n w0 sz)(aM:b-a<=sz+1)(hW:SoE wqE w0 blk off N n d w)(mu:a+1<m)(jE:m+1<b)(bz:b<=n)(hn:n<=1000)(hL:SortedIn (ltOf (a0h Wq.id)) a m d)(hR:SortedIn (ltOf (a0h Wq.id)) m b d):
 Calls prog 123 #[.slice (some ⟨blk,off,none⟩) n cap,.int .i64 (a:Nat),.int .i64 (m:Nat),.int .i64 (b:Nat),.func (.func 66) #[] #[.pointer (some ⟨X,0,none⟩)]] w λe w'=>e= .returned (.tuple #[])/\SoXE wqE w0 blk off N n (Srt (ltOf (a0h Wq.id)) a b d) w':=by
 have mixed:prog.follows .mixedOrders=true:=by kernel_rfl
 have HW:Hid (SoE wqE w0 blk off N n d w):=hW;have j8:=Lib.hid hL;have j9:=Lib.hid hR;replace ih:=Lib.hid ih;clear hW hL hR;have bB:IntKind.i64.wrap ((m:Int)-(a:Int))=(m:Int)-(a:Int):=by rw[IntKind.wrap_i64];omega
 have dQ:IntKind.i64.wrap ((b:Int)-(m:Int))=(b:Int)-(m:Int):=by rw[IntKind.wrap_i64];omega
 have ck:¬((m:Int)-(a:Int))=1:=xM;have dp:¬((b:Int)-(m:Int))=1:=xM;obtain⟨mid,kc,nJ,nK⟩:∃k:Nat,((a:Int)+(b:Int)) / 2=(k:Int)/\2*k<=a+b/\a+b<=2*k+1:=⟨(a+b) / 2,xM,xM,xM⟩;go_enter func123,ntmps123;go_upto_region 25 with fail;clear kc bB dQ ck dp;have gp:IntKind.i64.wrap ((mid:Int)+(m:Int))=(mid:Int)+(m:Int):=by rw[IntKind.wrap_i64];omega
 go_upto_if 140 with fail;go_cut [20,21] (λv u wx=>∃lo hi:Nat,v= .int .i64 (lo:Nat)/\u= .int .i64 (hi:Nat)/\SyB a m b mid lo hi/\w=wx)
 case first =>
  exact yao
 case rest =>
 obtain⟨lo,hi,rfl,rfl,⟨q1,q2,q3,q4,q5,q6,q7⟩,rfl⟩:=hcut;have j5:IntKind.i64.wrap ((mid:Int)+(m:Int)-1)=(mid:Int)+(m:Int)-1:=by rw[IntKind.wrap_i64];omega
 replace q6:=Lib.hid q6;replace q7:=Lib.hid q7;go_wp2_with fail;go_loopw [20,21] (λvi vj wr=>∃(i j:Nat),vi= .int .i64 (i:Nat)/\vj= .int .i64 (j:Nat)/\lo<=i/\i<=j/\j<=hi/\Hid (SoE wqE w0 blk off N n d wr)/\Hid (i=lo\/ltOf (a0h Wq.id) d[mid+m-1-(i-1)]! d[i-1]! =false)/\Hid (j=hi\/ltOf (a0h Wq.id) d[mid+m-1-j]! d[j]! =true)) (λvi vj _=>(intOf vj).toNat-(intOf vi).toNat)
 case atStart=>exact yfd
 case round =>
  obtain⟨i,j,rfl,rfl,cq,cm,dJ,HS,HL,HH⟩:=hrel;by_cases ab:i<j
  ·as_aux_lemma =>
   have aj:(i:Int)<(j:Int):=xM;go_upto_region 35 with fail;obtain⟨h,hh,nG,nH⟩:=b9m ab;rw[hh];clear hh aj;have nI:(h:Int)<(n:Int):=xM;obtain⟨p,hp⟩:=zE (mid+m-1-h);have fQ:(p:Int)<(n:Int):=xM;have mF:IntKind.i64.wrap ((mid:Int)+(m:Int)-1-(h:Int))=(p:Int):=by rw[IntKind.wrap_i64];omega
   have dD:=HS.out.sz;obtain⟨xh,bK⟩:=zE (d[h]!);obtain⟨xa,bD⟩:=zE (d[p]!);obtain⟨a0,a1,a2,a3,a4,a5,a6,a7⟩:=bK▸HS.out.row.cWq (j:=h) xM;obtain⟨b0,b1,b2,b3,b4,b5,b6,b7⟩:=bD▸HS.out.row.cWq (j:=p) xM;have HX:Hid (d[h]! =xh/\d[p]! =xa):=⟨bK,bD⟩;obtain⟨cv,aZ⟩:=zE ((a0h Wq.id) xa xh);have aS:∀W,w0.grownBy W (some blk)->Zc prog 66 #[vWq xa,vWq xh,.pointer (some ⟨X,0,none⟩)] W (.int .i64 cv):=λW hg=>by rw[<-aZ];exact hX xa xh W hg
   have HC:Hid ((a0h Wq.id) xa xh=cv):=aZ;replace hp:=Lib.hid hp;clear bK bD aZ gp j5;obtain⟨e0,e1,e2,e3,e4,e5,e6,e7,e8,e9,bH⟩:=xh;obtain⟨u0,u1,u2,u3,u4,u5,u6,u7,u8,u9,u10⟩:=xa;simp only at a0 a1 a2 a3 a4 a5 a6 a7 b0 b1 b2 b3 b4 b5 b6 b7;by_cases aC:cv<0
   ·refine zR6 λp=> ?_
    exact ybn
   ·refine zR6 λp=> ?_
    go_wp2_with fail;go_roundw
    case rel=>exact⟨h+1,j,by go_num,rfl,xM,xM,dJ,HS.out.below (below_growBy _ _),Lib.hid (.inr (by show ltOf (a0h Wq.id) d[mid+m-1-h]! d[h]! =false;rw[hp.out,HX.out.1,HX.out.2];exact a5t HC.out aC)),HH⟩
    case measure=>exact yae
  ·have cL:¬(i:Int)<(j:Int):=xM
   obtain rfl:i=j:=xM;obtain⟨e,he⟩:=zE (mid+m-i);have tD:=q6.out;have tE:=q7.out;have df:Cut (ltOf (a0h Wq.id)) a m b i e d:=by
    rw[<-he];refine b6o (a2h Wq.id) j8.out j9.out xM xM xM xM (λg1 g2=> ?_) (λg1 g2=> ?_)
    ·exact yhi
    ·exact yhj
   have qb:IntKind.i64.wrap ((mid:Int)+(m:Int)-(i:Int))=(e:Int):=by rw[IntKind.wrap_i64];omega
   have iC:=df.sm;have mT:=df.me;have sN:=df.eb;have has:=df.la;have eO:i+(e-m)=mid:=xM;replace df:=Lib.hid df;replace he:=Lib.hid he;clear tD tE HL HH HW gp j5;go_upto_region 39 with fail;go_cut [185] (λv wx=>v= .bool (decide (i<m)&&decide (m<e))/\wr=wx)
   case first =>
    exact yba
   case rest =>
   as_aux_lemma =>
   obtain⟨rfl,rfl⟩:=hcut;obtain⟨c1,aR⟩:=zE ((decide (i<m)&&decide (m<e)));rw[aR];go_upto_if 185 with fail;go_cut [24] (λv wx=>v= .int .i64 (e:Nat)/\SoXE wqE w0 blk off N n (Rot i m e d) wx)
   case first =>
    cases c1
    ·exact ydo
    ·simp only[Bool.and_eq_true,decide_eq_true_eq]at aR
     obtain⟨g1,g2⟩:=aR;have hc:=c3q blk off cap N n i m e d (.func (.func 66) #[] #[.pointer (some ⟨X,0,none⟩)]) w0 _ HS.out g1 g2 xM hn;go_wp2_with (first
      |(go_at_call 145;(with_reducible refine hc.mono ?_);rintro e5 w1⟨rfl,rl⟩))
     exact ygs
   case rest =>
   as_aux_lemma =>
   obtain⟨rfl,d1,eA,aN⟩:=hcut;clear aR qb;obtain⟨⟨s1,s2,s3,s4⟩,-⟩:=Cut.step (d2:=d1) (d3:=d1) (a2h Wq.id) df.out j8.out j9.out aN;rw[eO]at s2 s3;replace eA:=Lib.hid eA;replace aN:=Lib.hid aN;replace s1:=Lib.hid s1;replace s2:=Lib.hid s2;replace s3:=Lib.hid s3;replace s4:=Lib.hid s4;have mw:i<=mid:=xM;have kh:mid<=e:=xM;have qe:mid<b:=xM;have tF:a<mid:=xM;clear q1 q2 q3 q4 q5 q6 q7 HS cq cm dJ ab cL;go_upto_region 41 with fail;go_cut [199] (λv wx=>v= .bool (decide (a<i)&&decide (i<mid))/\wc=wx)
   case first =>
    exact yay
   case rest =>
   as_aux_lemma =>
   obtain⟨rfl,rfl⟩:=hcut;obtain⟨c1,aR⟩:=zE ((decide (a<i)&&decide (i<mid)));rw[aR];go_upto_if 199 with fail;go_cut [24] (λv wx=>v= .int .i64 (e:Nat)/\SoXE wqE w0 blk off N n (Srt (ltOf (a0h Wq.id)) a mid d1) wx)
   case first =>
    cases c1
    ·exact ybb
    ·simp only[Bool.and_eq_true,decide_eq_true_eq]at aR
     obtain⟨g1,g2⟩:=aR;have hc:=ih.out a i mid d1 _ xM eA.out g1 g2 xM s1.out s2.out;go_wp2_with (first
      |(go_at_call 123;(with_reducible refine hc.mono ?_);rintro e5 w1⟨rfl,rl⟩))
     exact ygs
   case rest =>
   as_aux_lemma =>
   obtain⟨rfl,d2,gv,aL⟩:=hcut;clear aR;replace gv:=Lib.hid gv;have s5:=Lib.hid (SortedIn.outs s3.out aL.out (.inr (yR _)));have s6:=Lib.hid (SortedIn.outs s4.out aL.out (.inr kh));replace aL:=Lib.hid aL;clear eA s1 s2 s3 s4;go_upto_region 43 with fail;go_cut [213] (λv wx=>v= .bool (decide (mid<e)&&decide (e<b))/\wc=wx)
   case first =>
    exact yaz
   case rest =>
   as_aux_lemma =>
   obtain⟨rfl,rfl⟩:=hcut;obtain⟨c1,aR⟩:=zE ((decide (mid<e)&&decide (e<b)));rw[aR];have cY:∀d3,Srt (ltOf (a0h Wq.id)) mid b d2 d3->Srt (ltOf (a0h Wq.id)) a b d d3:=λd3 h3=>by
    have hx:=(Cut.step (d2:=d2) (d3:=d3) (a2h Wq.id) df.out j8.out j9.out aN.out).2;exact yjd
   replace cY:=Lib.hid cY
   cases c1
   ·have fp:mid=e\/e=b:=by
     simp at aR;omega
    have lG:Srt (ltOf (a0h Wq.id)) mid b d2 d2:=a1v (by
     rcases fp with h|h
     ·exact yhh
     ·have:=s5.out
      rw[h]at this;exact this)
    exact yda
   ·simp only[Bool.and_eq_true,decide_eq_true_eq]at aR
    obtain⟨g1,g2⟩:=aR;have hc:=ih.out mid e b d2 _ xM gv.out g1 g2 bz s5.out s6.out;go_wp2_with (first
     |(go_at_call 123;(with_reducible refine hc.mono ?_);rintro e5 w1⟨rfl,d3,AW,jV⟩))
    exact yhl
theorem a6o (X blk off cap N n:Nat)(w0:Wd)(hX:b0u X blk w0)(hn:n<=1000):∀sz,c5a X blk off cap N n w0 sz
 |0,a,m,b,d,w,h,_,h1,h2,_,_,_=>by omega
 |sz+1,a,m,b,d,w,h,hW,h1,h2,hb,hL,hR=>by
  by_cases g1:m=a+1
  ·exact c7f blk off cap N n a m b d w0 w X hX hW g1 h2 hb hn hR
  ·by_cases g2:b=m+1
   ·exact c7g blk off cap N n a m b d w0 w X hX hW g2 xM hb hn hL
   ·exact c7h blk off cap N n a m b sz d w0 w X hX (a6o X blk off cap N n w0 hX hn sz) h hW xM xM hb hn hL hR
theorem b2x (blk off cap N n a b:Nat)(d:Array Wq)(w0 w:Wd)(X:Nat)(hX:b0u X blk w0)(hW:SoE wqE w0 blk off N n d w)(bq:a<=b)(bz:b<=n)(hn:n<=1000):
 Calls prog 122 #[.slice (some ⟨blk,off,none⟩) n cap,.int .i64 (a:Nat),.int .i64 (b:Nat),.func (.func 66) #[] #[.pointer (some ⟨X,0,none⟩)]] w λe w'=>e= .returned (.tuple #[])/\SoE wqE w0 blk off N n (insertionSort (ltOf (a0h Wq.id)) d a b) w':=by
 have mixed:prog.follows .mixedOrders=true:=by kernel_rfl
 have HW:Hid (SoE wqE w0 blk off N n d w):=hW;clear hW;go_enter func122,ntmps122;go_wp2_with fail;go_loopw [8] (λvi wr=>∃(i:Nat) (dk:Array Wq),vi= .int .i64 (i:Nat)/\a+1<=i/\i<=b+1/\Hid (SoE wqE w0 blk off N n dk wr)/\Hid (insOuter (ltOf (a0h Wq.id)) a b i dk=insOuter (ltOf (a0h Wq.id)) a b (a+1) d)) (λvi _=>b+1-(intOf vi).toNat)
 case atStart=>exact yja
 case round =>
  obtain⟨i,dk,rfl,cq,eB,HR,HO⟩:=hrel;by_cases ab:i<b
  ·have aj:(i:Int)<(b:Int):=xM
   go_wp2_with fail;go_loopw [9] (λvj rL=>∃(j:Nat) (dj:Array Wq),vj= .int .i64 (j:Nat)/\a<=j/\j<=i/\Hid (SoE wqE w0 blk off N n dj rL)/\Hid (insInner (ltOf (a0h Wq.id)) a j dj=insInner (ltOf (a0h Wq.id)) a i dk)) (λvj _=>(intOf vj).toNat)
   case atStart=>exact⟨i,dk,rfl,xM,xM,HR,rfl⟩
   case round =>
    obtain⟨j,dj,rfl,DM,cA,HJ,HI⟩:=hrel;have out:Hid ((j<=a\/ltOf (a0h Wq.id) dj[j]! dj[j-1]! =false)->insOuter (ltOf (a0h Wq.id)) a b (i+1) dj=insOuter (ltOf (a0h Wq.id)) a b (a+1) d):=λhs=>by
     exact yfi
    by_cases kY:a<j
    ·have kj:(a:Int)<(j:Int):=xM
     obtain⟨jp,rfl⟩:∃jp,j=jp+1:=⟨j-1,xM⟩;have DN:(a:Int)<(jp:Int)+1:=xM;have iM:jp+1<dj.size:=by rw[HJ.out.sz];omega
     obtain⟨xj,km⟩:=zE (dj[jp+1]!);obtain⟨xp,aY⟩:=zE (dj[jp]!);obtain⟨a0,a1,a2,a3,a4,a5,a6,a7⟩:=km▸HJ.out.row.cWq iM;obtain⟨b0,b1,b2,b3,b4,b5,b6,b7⟩:=aY▸HJ.out.row.cWq (j:=jp) xM;have HX:Hid (dj[jp+1]! =xj/\dj[jp]! =xp):=⟨km,aY⟩;obtain⟨cv,aZ⟩:=zE ((a0h Wq.id) xj xp);have aS:∀W,w0.grownBy W (some blk)->Zc prog 66 #[vWq xj,vWq xp,.pointer (some ⟨X,0,none⟩)] W (.int .i64 cv):=λW hg=>by rw[<-aZ];exact hX xj xp W hg
     have HC:Hid ((a0h Wq.id) xj xp=cv):=aZ;clear km aY aZ;obtain⟨e0,e1,e2,e3,e4,e5,e6,e7,e8,e9,bH⟩:=xj;obtain⟨u0,u1,u2,u3,u4,u5,u6,u7,u8,u9,u10⟩:=xp;have mF:IntKind.i64.wrap (jp:Int)=(jp:Int):=by rw[IntKind.wrap_i64];omega
     have tG:(jp:Int)+1<(n:Int):=xM;have nL:(jp:Int)<(n:Int):=xM;have gW:(0:Int)<=(jp:Int)+1:=xM;have tH:((jp:Int)+1).toNat=jp+1:=xM;by_cases aC:cv<0
     ·go_wp2_with fail
      refine zR7 λp=> ?_
      go_upto_region 6 with fail;obtain⟨W2,bQ⟩:=zE (wr.growBy p);rw[bQ];have dR:SoE wqE w0 blk off N n dj W2:=by rw[<-bQ];exact HJ.out.below (below_growBy _ _)
      clear a0 a1 a2 a3 a4 a5 a6 a7 b0 b1 b2 b3 b4 b5 b6 b7 bQ aS;obtain⟨a0,a1,a2,a3,a4,a5,a6,a7⟩:=HX.out.1▸dR.row.cWq iM;obtain⟨b0,b1,b2,b3,b4,b5,b6,b7⟩:=HX.out.2▸dR.row.cWq (j:=jp) xM;obtain⟨f0,f1,f2,f3,f4,f5,f6,f7⟩:=dR.row.fWq iM;obtain⟨g0,g1,g2,g3,g4,g5,g6,g7⟩:=dR.row.fWq (j:=jp) xM;have gU:=Lib.hid (dR.swap a6d (p:=jp+1) (q:=jp) xM xM);have DO:jp+1<n:=xM;replace dR:=Lib.hid dR;simp only at a0 a1 a2 a3 a4 a5 a6 a7 b0 b1 b2 b3 b4 b5 b6 b7;go_big_region_o
      all_goals go_wp2_with fail
      go_roundw
      case rel =>
       refine⟨jp,swp dj (jp+1) jp,by go_num,xM,xM,?_,?_⟩
       ·exact ydm
       ·show _=_
        have h4:=insInner_go (ltOf (a0h Wq.id)) a (jp+1) dj kY (by rw[HX.out.1,show jp+1-1=jp from rfl,HX.out.2];exact a5a HC.out aC);rw[<-HI.out,h4];rfl
      case measure=>exact yae
     ·go_wp2_with fail
      refine zR7 λp=> ?_
      exact ybf
    ·obtain rfl:j=a:=xM
     have kj:¬(j:Int)<(j:Int):=xM;have jR:=out.out (.inl (yR _));go_wp2_with fail;go_big_region_o
     all_goals go_wp2_with fail
     exact ydq
  ·exact ybx
theorem c0x (blk cap N n:Nat)(d:Array Wq)(w:Wd)(X:Nat)(hX:b0u X blk w)(hW:SoE wqE w blk 0 N n d w)(hn:n<=1000):
 Calls prog 100 #[.slice (some ⟨blk,0,none⟩) n cap,.int .i64 (n:Nat),.func (.func 66) #[] #[.pointer (some ⟨X,0,none⟩)]] w λe w'=>e= .returned (.tuple #[])/\SoE wqE w blk 0 N n (insertionSort (ltOf (a0h Wq.id)) d 0 n) w':=by
 have mixed:prog.follows .mixedOrders=true:=by kernel_rfl
 have HW:=Lib.hid hW;have dD:=hW.sz;clear hW;go_enter func100,ntmps100;go_wp2_with fail;go_loopw [7,8] (λva vb wr=>∃(a:Nat) (dk:Array Wq),va= .int .i64 (a:Nat)/\vb= .int .i64 ((a:Int)+20)/\a<=n/\Hid (SoE wqE w blk 0 N n dk wr)/\Hid (InI (ltOf (a0h Wq.id)) 20 a n d dk)) (λva _ _=>n+1-(intOf va).toNat)
 case atStart=>exact yhk
 case round =>
  obtain⟨a,dk,rfl,rfl,eT,HR,HI⟩:=hrel;by_cases hle:a+20<=n
  ·have dS:(a:Int)+20<=(n:Int):=xM
   have hc:=b2x blk 0 cap N n a (a+20) dk w wr X hX HR.out xM hle hn;rw[show((a+20:Nat):Int)=(a:Int)+20 by omega]at hc;have bB:IntKind.i64.wrap ((a:Int)+20+20)=(a:Int)+20+20:=by rw[IntKind.wrap_i64];omega
   have bU:=a0r (lt:=ltOf (a0h Wq.id)) (a2h Wq.id) dk (show a<=a+20 by omega) (by rw[HR.out.sz];exact hle);have AT:=Lib.hid (HI.out.step hle bU);clear bU;go_wp2_with (first
    |(go_at_call 122;(with_reducible refine hc.mono ?_);rintro e w1⟨rfl,h1⟩))
   exact ydt
  ·have dS:¬(a:Int)+20<=(n:Int):=xM
   have hc:=b2x blk 0 cap N n a n dk w wr X hX HR.out eT (yR _) hn;have bU:=a0r (lt:=ltOf (a0h Wq.id)) (a2h Wq.id) dk eT (by rw[HR.out.sz];exact yR _);obtain⟨bn,aP,aq⟩:=HI.out.last jM eT xM bU;obtain⟨d2,bM⟩:=zE (insertionSort (ltOf (a0h Wq.id)) dk a n);rw[bM]at hc bn aP aq;replace aP:=Lib.hid aP;replace aq:=Lib.hid aq;clear bU bM HI;go_wp2_with (first
    |(go_at_call 122;(with_reducible refine hc.mono ?_);rintro e w1⟨rfl,h1⟩))
   replace h1:=Lib.hid h1;clear hc HR;go_loopw [6] (λvs wr=>∃(s:Nat) (dk:Array Wq),vs= .int .i64 (s:Nat)/\20<=s/\s<=2000/\Hid (SoE wqE w blk 0 N n dk wr)/\Hid (Stb (ltOf (a0h Wq.id)) (ext d 0 n) (ext dk 0 n))/\Hid (Bks (ltOf (a0h Wq.id)) s n dk)) (λvs _=>3000-(intOf vs).toNat)
   case atStart=>exact yjh
   case round =>
    obtain⟨s,AV,rfl,tI,cX,HR,HS,HB⟩:=hrel;by_cases DQ:s<n
    ·have tJ:(s:Int)<(n:Int):=xM
     have DR:IntKind.i64.wrap (2*(s:Int))=2*(s:Int):=by rw[IntKind.wrap_i64];omega
     have tK:IntKind.i64.wrap ((s:Int)*2)=(s:Int)*2:=by rw[IntKind.wrap_i64];omega
     go_wp2_with fail;go_loopw [7,8] (λva vb wr=>∃(a:Nat) (dk:Array Wq),va= .int .i64 (a:Nat)/\vb= .int .i64 ((a:Int)+2*(s:Int))/\a<=n/\Hid (SoE wqE w blk 0 N n dk wr)/\Hid (MrI (ltOf (a0h Wq.id)) s a n d dk)) (λva _ _=>n+1-(intOf va).toNat)
     case atStart=>exact yew
     case round =>
      obtain⟨a,dk,rfl,rfl,eT,HK,HM⟩:=hrel;have DS:IntKind.i64.wrap ((a:Int)+(s:Int))=(a:Int)+(s:Int):=by rw[IntKind.wrap_i64];omega
      by_cases hle:a+2*s<=n
      ·have dS:(a:Int)+2*(s:Int)<=(n:Int):=xM
       have DT:IntKind.i64.wrap ((a:Int)+2*(s:Int)+2*(s:Int))=(a:Int)+2*(s:Int)+2*(s:Int):=by rw[IntKind.wrap_i64];omega
       obtain⟨g1,g2⟩:=HM.out.two;have hc:=a6o X blk 0 cap N n w hX hn (2*s) a (a+s) (a+2*s) dk wr xM HK.out xM xM hle (SortedIn.mono g1 (yR _) xM) (SortedIn.mono g2 (yR _) xM);rw[show((a+s:Nat):Int)=(a:Int)+(s:Int) by omega,show((a+2*s:Nat):Int)=(a:Int)+2*(s:Int) by omega]at hc;clear g1 g2;go_wp2_with (first
        |(go_at_call 123;(with_reducible refine hc.mono ?_);rintro e w1⟨rfl,d3,h3,r3⟩))
       exact ycs
      ·have dS:¬(a:Int)+2*(s:Int)<=(n:Int):=xM
       by_cases qf:a+s<n
       ·have oW:(a:Int)+(s:Int)<(n:Int):=xM
        obtain⟨g1,g2⟩:=HM.out.two;have hc:=a6o X blk 0 cap N n w hX hn (2*s) a (a+s) n dk wr xM HK.out xM qf (yR _) (SortedIn.mono g1 (yR _) xM) (SortedIn.mono g2 (yR _) xM);rw[show((a+s:Nat):Int)=(a:Int)+(s:Int) by omega]at hc;clear g1 g2;go_wp2_with (first
         |(go_at_call 123;(with_reducible refine hc.mono ?_);rintro e w1⟨rfl,d3,h3,r3⟩))
        exact ybv
       ·exact ybg
    ·have tJ:¬(s:Int)<(n:Int):=xM
     go_wp2_with fail;go_end0;refine⟨rfl,?_⟩;rw[<-a5o (a2h Wq.id) dD HR.out.sz HS.out HB.out xM];exact HR.out
theorem c0y (a:Option Addr)(n c:Nat)(fv:Vu)(w:Wd):Calls prog 122 #[.slice a n c,.int .i64 0,.int .i64 0,fv] w λe w'=>e= .returned (.tuple #[])/\w=w':=by
 go_enter func122,ntmps122;exact ydu
theorem c0z (v fv:Vu)(w:Wd)(K:World->Prop)(h:Calls prog 122 #[v,.int .i64 0,.int .i64 0,fv] w λe w'=>e= .returned (.tuple #[])/\K w'):
 Calls prog 100 #[v,.int .i64 0,fv] w λe w'=>e= .returned (.tuple #[])/\K w':=by
 have mixed:prog.follows .mixedOrders=true:=by kernel_rfl
 go_enter func100,ntmps100;go_wp2_with fail;refine wp_loop_rounds 1 ?_;rw[rounds_succ];go_wp2_with (go_at_call 122;refine h.mono ?_;rintro e w1⟨rfl,hK⟩);exact yeo
theorem b2y (base X:Nat)(v:Vu)(l:List Wq)(w:Wd)(hl:l.length<=1000)(ag:w.ownsRow base 46 8 v l.length (l.flatMap wqE.enc))(hX:∀g,v.ownBlock=some g->b0u X g w):
 Calls prog 65 #[v,.func (.func 66) #[] #[.pointer (some ⟨X,0,none⟩)]] w λe w'=>e= .returned (.tuple #[])/\w'.ownsRow base 46 8 v l.length ((a0w Wq.id l).flatMap wqE.enc)/\w.grownBy w' v.ownBlock:=by
 rcases ag.2 with⟨rfl,h0⟩|⟨g,cap,cur,rfl,hb,hg,h1,h2,h3,h4⟩
 ·obtain rfl:=List.eq_nil_of_length_eq_zero h0
  have c1:=c0z (.slice none 0 0) (.func (.func 66) #[] #[.pointer (some ⟨X,0,none⟩)]) w (λw'=>w=w') (c0y none 0 0 _ w);have aL:=Lib.hid ag;clear ag h0;go_enter func65,ntmps65;go_wp2_with (go_at_call 100;refine c1.mono ?_;rintro e w1⟨rfl,rfl⟩);go_end0;refine⟨rfl,?_,⟨rfl,rfl,rfl,yR _,λ_ _ _=>rfl⟩⟩;have e0:a0w Wq.id []=[]:=List.eq_nil_of_length_eq_zero (a2k _ _);rw[e0];exact aL.out
 ·obtain⟨hS,bE⟩:=a4q a6d ag
  have c1:=c0x g cap (cap*8) l.length l.toArray w X (hX g rfl) hS hl;clear ag hg h3 h4 hX;go_enter func65,ntmps65;go_wp2_with (go_at_call 100;refine c1.mono ?_;rintro e w1⟨rfl,hd⟩);go_end0;refine⟨rfl,?_,hd.gr⟩;have h5:=a4r a6d hd bE h1 h2;exact h5
theorem b0v (x:Wq)(w:Wd):Zc prog 63 #[vWq x] w (.int .i64 x.id):=by
 obtain⟨e0,e1,e2,e3,e4,e5,e6,e7,e8,e9,bH⟩:=x;go_enter func63,ntmps63;exact ybd
theorem c1a (X blk:Nat)(w0:Wd)(sv:Vu)(kX:Blk w0 X #[sv,.func (.func 63) #[] #[]] 91)(an:X≠blk):b0u X blk w0:=by
 intro x y W hg;have k1:Blk W X #[sv,.func (.func 63) #[] #[]] 91:=(hg.block X kX.lt (λe=>an (by cases e;rfl))).trans kX;have c1:W.cell? ⟨X,1,none⟩=some (.func (.func 63) #[] #[]):=k1.cell 1;obtain⟨r,hr⟩:=zE (a0h Wq.id x y);rw[hr];have i1:=b0v x;have i2:=b0v y;have i3:∀w,Calls prog 58 #[.int .i64 x.id,.int .i64 y.id] w λe w'=>e= .returned (.int .i64 r)/\w=w':=λw=>(Go.Proofs.Tryz.cmp_Compare_int x.id y.id w).mono λ_ _ ⟨he,hw⟩=>⟨by rw[he,<-hr];rfl,hw.symm⟩
 clear hr kX k1 an hg;obtain⟨e0,e1,e2,e3,e4,e5,e6,e7,e8,e9,bH⟩:=x;obtain⟨u0,u1,u2,u3,u4,u5,u6,u7,u8,u9,u10⟩:=y;simp only at i1 i2 i3;go_enter func66,ntmps66;go_wp2_with fail;first|with_reducible refine a0k 9 zM zM ?_|with_reducible refine a0m 9 zM zM ?_
 simp only[zT];repeat(first|go_big_quiet_step ((first|(go_at_call 63;first|exact Calls.grow_of (i1 _)|exact Calls.grow_of (i2 _))|(go_at_call 58;exact Calls.grow_of_same (i3 _))))|quiet_step ((first|(go_at_call 63;first|exact Calls.grow_of (i1 _)|exact Calls.grow_of (i2 _))|(go_at_call 58;exact Calls.grow_of_same (i3 _)))))
 exact ydz
theorem b5a (v:Vu)(l:List Wq)(w:Wd)(h:Lst wqE w.heap.size w v l)(hf:Frm v l.length)(hl:l.length<=100000):
 Calls prog 64 #[v] w λe w'=>∃u,e= .returned u/\w'.ownsRow w.heap.size 46 8 u l.length (l.flatMap wqE.enc)/\Below w.heap.size w w':=by
 rcases hf with rfl|⟨b,off,cap,rfl⟩
 ·obtain⟨a,cap,e,-⟩:=h.form
  simp only[Value.slice.injEq]at e;obtain⟨-,e,-⟩:=e;obtain rfl:=List.eq_nil_of_length_eq_zero e.symm;refine(AnyE.slices_Clone_nil Tryz.cloneWq 0 0 w).mono ?_;exact yds
 ·obtain⟨i0,bV,dm,aH,bn⟩:=info_parts (P:=prog) (e:=46) (z:= .agg #[.int .i64 0,.slice none 0 0,.int .i64 0,.string ⟨#[]⟩,.string ⟨#[]⟩,.bool false,.int .i64 0,.int .i64 0]) (size:=8) (bytes:=96) zM
  refine(AnyE.slices_Clone Tryz.cloneWq i0 _ 8 96 bV dm aH bn qM xM sizeOf46 b off l.length cap (l.flatMap wqE.enc) w (a0t a6d l) gM xM (h.flat a6d) (a2q a6d l)).mono ?_;exact yfk
theorem b2z (v:Vu)(l:List Wq)(w:Wd)(h:Lst wqE w.heap.size w v l)(hf:Frm v l.length)(hl:l.length<=1000):
 Calls prog 34 #[.agg #[v,.func (.func 63) #[] #[]]] w λe w'=>∃u,e= .returned u/\w'.ownsRow w.heap.size 46 8 u l.length ((a0w Wq.id l).flatMap wqE.enc)/\Below w.heap.size w w':=by
 have fR:Below w.heap.size w (w.alloc (.cells #[v,.func (.func 63) #[] #[]] 91)):=(zR _ _).alloc (yR _) _;have kX:=Blk.new w #[v,.func (.func 63) #[] #[]] 91;have c0:=kX.cell 0;have hL:=h.up fR;replace c0:(w.alloc (.cells #[v,.func (.func 63) #[] #[]] 91)).cell? ⟨w.heap.size,0,none⟩=some v:=c0;go_enter func34,ntmps34;go_upto_region 1 with fail;obtain⟨W0,dH⟩:=zE (w.alloc (.cells #[v,.func (.func 63) #[] #[]] 91));obtain⟨X,jA⟩:=zE w.heap.size;rw[dH]at fR c0 hL kX;rw[dH];rw[jA]at c0 kX;rw[jA];clear dH;go_upto_region 2 with(first
  |(go_at_call 64;(with_reducible refine(b5a _ l _ hL hf xM).mono ?_);rintro e w1⟨u1,rfl,aN,ah⟩))
 have aM:=fR.size;have mG:=kX.lt;have eH:Below X w w1:=(jA▸fR).trans (ah.mono xM);have nM:=kX.below ah mG;have nN:∀g,u1.ownBlock=some g->b0u X g w1:=λg hg=>c1a X g w1 v nM (λe=>by have:=(aN.lt g hg).1;omega)
 have hs:=b2y _ X u1 l w1 hl aN nN;have ab:=λg (hg:u1.ownBlock=some g)=>(aN.lt g hg).1
 clear nN aN hL h c0 kX nM fR;replace ab:=Lib.hid ab;replace eH:=Lib.hid eH;go_wp2_with (first
  |(go_at_call 65;(with_reducible refine hs.mono ?_);rintro e w2⟨rfl,aL,fM⟩))
 exact yck
theorem b8i (x0 x1 x2 x3:Option Addr)(n0 n1 n2 n3 c0 c1 c2 c3:Nat)(w:Wd):Zc prog 33 #[.agg #[.slice x0 n0 c0,.slice x1 n1 c1,.slice x2 n2 c2,.slice x3 n3 c3]] w (.agg #[.slice x2 n2 c2,.func (.func 63) #[] #[]]):=by
 go_enter func33,ntmps33;go_wp2_with fail;have k2:=(Blk.new (w.alloc (.cells #[.slice x0 n0 c0,.slice x1 n1 c1,.slice x2 n2 c2,.slice x3 n3 c3] 32)) #[.slice x2 n2 c2,.func (.func 63) #[] #[]] 91);rw[World.size_alloc]at k2;exact bodyPost_ret (results_cell_row qM _ _ _ 91 _ (0,0) _ qM k2 underlying91 qM zM) rfl ⟨rfl,zC⟩
end
end Go.Proofs.YteijfnkidefekaaGreat
