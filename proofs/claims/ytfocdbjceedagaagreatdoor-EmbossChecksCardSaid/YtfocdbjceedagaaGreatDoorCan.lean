/-
  Parts.
-/
import Derived.Test.YtfocdbjceedagaaGreatDoorCam
set_option linter.unusedVariables false
set_option linter.unusedSimpArgs false
set_option maxHeartbeats 4000000
set_option maxRecDepth 100000
namespace Go.Proofs.YtfocdbjceedagaaGreatDoor
open Tryz
section
open Go Go.RowKit Go.Shelf
abbrev d8u (l:List UInt8):Array Value:=(l.map λb=>Value.int .i64 (b.toNat:Int)).toArray
def FEc (w0:Wd)(c qi qr qx qy:Nat)(i:Nat)(v:Vu)(w:Wd):Prop :=
 match i with
 |0=>∃L,v= .slice (some ⟨L,0,none⟩) 26 26/\Blk w L b8l 3
 |1=>v= .int .u8 (c:Nat)
 |2=>v= .int .u8 (qi:Nat)
 |3=>∃L,v= .pointer (some ⟨L,qi,none⟩)/\Blk w L b8l 3
 |4=>v= .int .i64 (qx:Nat)
 |5=>∃L,v= .slice (some ⟨L,0,none⟩) 26 26/\Blk w L b8l 3
 |6=>v= .int .u8 (c:Nat)
 |7=>v= .int .u8 (qr:Nat)
 |8=>∃L,v= .pointer (some ⟨L,qr,none⟩)/\Blk w L b8l 3
 |9=>v= .int .i64 (qy:Nat)
 |10=>∃L,v= .slice (some ⟨L,0,none⟩) 3 3/\Blk w L #[.int .i64 8,.int .i64 (qx:Nat),.int .i64 (qy:Nat)] 3
 |_=>False
theorem FEc.kept {w0:Wd}{c qi qr qx qy:Nat}{i:Nat}{v:Vu}{w w':Wd}(h:FEc w0 c qi qr qx qy i v w)(hg:Below w.heap.size w w'):FEc w0 c qi qr qx qy i v w':=by
 unfold FEc at *;exact yel
theorem c3j (s:Bw)(n:Nat)(h0:n<s.size)(c:Nat)(hc:(s[n]'h0).toNat=c)(a7:32<=c/\c<=126)(hl:s.size<=1000)(w:Wd) :
 Calls prog 148 #[.string s,.int .i64 n] w λe w'=>∃B,e= .returned (.slice (some ⟨B,0,none⟩) (cellAt (a4u s n) c).length (cellAt (a4u s n) c).length)/\Below w.heap.size w w'/\Blk w' B (d8u (cellAt (a4u s n) c)) 3:=by
 obtain⟨af,lY⟩:=zE (a4u s n);rw[lY];have ag:(n:Int)<(s.size:Int):=oM;have hd:(n=0/\af=false)\/∃(h1:0<n) (d:Nat),(s[n-1]'(by omega)).toNat=d/\(decide (48<=(d:Int))&&decide ((d:Int)<=57))=af:=by
  by_cases hn:n=0
  ·subst hn
   exact .inl ⟨rfl,by rw[<-lY];rfl⟩
  ·refine .inr ⟨oM,_,rfl,?_⟩
   rw[<-lY];unfold a4u;rw[getElem!_pos s (n-1) oM,decide_eq_true (show 0<n by omega),Bool.true_and];have e1:∀d:Nat,decide (48<=(d:Int))=decide (48<=d):=λd=>by simp only[decide_eq_decide];omega
   have e2:∀d:Nat,decide ((d:Int)<=57)=decide (d<=57):=λd=>by simp only[decide_eq_decide];omega
   rw[e1,e2]
 clear lY;have iK:(97<=c/\c<=106/\af=true)\/(97<=c/\c<=106/\af=false)\/(107<=c/\c<=122)\/(65<=c/\c<=90)\/(48<=c/\c<=57/\af=true)\/(48<=c/\c<=57/\af=false)\/((c<48\/57<c)/\(c<65\/90<c)/\(c<97\/122<c)):=by
  cases af <;> simp <;> omega
 replace iK:=Lib.hid iK;go_enter func148,ntmps148;go_upto_region 2 with(first|(refine a0k qM 9 _ _ qM s .i64 (n:Nat) qM qM underlying9 _ oM oM (by rw[<-hc];rfl) ?_)|fail);go_cut [6] (λv wx=>v= .bool af/\wx=w)
 case first =>
  clear iK;rcases hd with⟨rfl,rfl⟩|⟨h1,d,hd,hb⟩
  ·exact yhe
  ·have hp:0<(n:Int):=oM
   have qa:IntKind.i64.wrap ((n:Int)-1)=(n:Int)-1:=a1i oM oM;replace hb:=Lib.hid hb;go_wp2_with (first
    |(refine a0k qM 9 _ _ qM s .i64 ((n:Int)-1) qM qM underlying9 d oM oM (by rw[<-hd];congr 2;congr 1;omega) ?_)
    |(go_at_call 167;with_reducible refine(a3d d af hb.out _).mono ?_;rintro e w'⟨rfl,rfl⟩))
   go_meet;exact⟨rfl,rfl⟩
 case rest =>
  obtain⟨rfl,IE⟩:=hcut;subst IE;clear hd hc;have dN:=iK.out;clear iK;rcases dN with⟨k0,k9,rfl⟩|⟨k0,k9,rfl⟩|⟨k0,k9⟩|⟨k0,k9⟩|⟨k0,k9,rfl⟩|⟨k0,k9,rfl⟩|⟨k0,k8,k9⟩
  ·have e1:cellAt true c=[48,lettersB[c-97]!]:=by
    unfold cellAt;rw[if_pos oM];rw[show(true&&decide (c<=106))=true by simp;omega];rfl
   exact ydk
  ·have e1:cellAt false c=[lettersB[c-97]!]:=by
    unfold cellAt;rw[if_pos oM];rfl
   exact ydk
  ·have e1:cellAt af c=[lettersB[c-97]!]:=by
    unfold cellAt;rw[if_pos oM];rw[show(af&&decide (c<=106))=false by simp;omega];rfl
   obtain⟨j,hj⟩:=zE (c-97);rw[hj]at e1;have hw:IntKind.u8.wrap ((c:Int)-97)=(j:Int):=by simp[IntKind.wrap,IntKind.bits,IntKind.signed];omega
   have hx:=b5w (j:=j) oM;obtain⟨u,hu⟩:=zE (lettersB[j]!);rw[hu]at hx e1;have k1:(97:Int)<=c:=oM;have k2:(c:Int)<=122:=oM;have k3:¬(c:Int)<=106:=oM;exact ybp
  ·have e1:cellAt af c=[32,lettersB[c-65]!]:=by
    unfold cellAt;rw[if_neg oM,if_pos oM]
   obtain⟨j,hj⟩:=zE (c-65);rw[hj]at e1;have hw:IntKind.u8.wrap ((c:Int)-65)=(j:Int):=by simp[IntKind.wrap,IntKind.bits,IntKind.signed];omega
   have hx:=b5w (j:=j) oM;obtain⟨u,hu⟩:=zE (lettersB[j]!);rw[hu]at hx e1;have k1:¬(97:Int)<=c:=oM;have k2:(65:Int)<=c:=oM;have k3:(c:Int)<=90:=oM;exact ybp
  ·have e1:cellAt true c=[lettersB[(c-48+9) % 10]!]:=by
    unfold cellAt;rw[if_neg oM,if_neg oM,if_pos oM];rfl
   exact yav
  ·have e1:cellAt false c=[60,lettersB[(c-48+9) % 10]!]:=by
    unfold cellAt;rw[if_neg oM,if_neg oM,if_pos oM];rfl
   exact yav
  ·have jQ:=Lib.hid (show(decide (48<=(c:Int))&&decide ((c:Int)<=57))=false by simp;omega)
   have oz:=d8t (c:=c) oM;have dV:=λW=>c7k c W
   by_cases hz:0<=a5m c
   ·rw[if_pos hz]at oz
    have e1:cellAt af c=[signedB[(a5m c).toNat]!]:=by
     unfold cellAt;rw[if_neg oM,if_neg oM,if_neg oM,if_pos hz]
    obtain⟨u,hu⟩:=zE (signedB[(a5m c).toNat]!);rw[hu]at oz e1;simp only[oz]at dV;have Us:(0:Int)<=(u.toNat:Int):=oM;replace e1:=Lib.hid e1;clear hu hz oz;rcases(show c<65\/(90<c/\c<97)\/122<c from oM)with h1|⟨h1,h2⟩|h1
    ·have k1:¬(97:Int)<=c:=oM
     have k2:¬(65:Int)<=c:=oM;exact ybv
    ·have k1:¬(97:Int)<=c:=oM
     have k2:(65:Int)<=c:=oM;have k3:¬(c:Int)<=90:=oM;exact ybv
    ·have k1:(97:Int)<=c:=oM
     have k2:¬(c:Int)<=122:=oM;have k3:(65:Int)<=c:=oM;have k4:¬(c:Int)<=90:=oM;exact ybv
   ·rw[if_neg hz]at oz
    have e1:cellAt af c=[8,lettersB[c / 16]!,lettersB[c % 16]!]:=by
     unfold cellAt;rw[if_neg oM,if_neg oM,if_neg oM,if_neg hz]
    simp only[oz]at dV;obtain⟨qi,hi⟩:=zE (c / 16);obtain⟨qr,hr⟩:=zE (c % 16);rw[hi,hr]at e1;have hx:=b5w (j:=qi) oM;have hy:=b5w (j:=qr) oM;have mL:Int.tdiv (c:Int) 16=(qi:Int):=by rw[Int.tdiv_eq_ediv_of_nonneg oM];omega
    have Qh:Int.tmod (c:Int) 16=(qr:Int):=by rw[Int.tmod_eq_emod_of_nonneg oM];omega
    have ya:(c:Int) / 16=(qi:Int):=oM;have IF:(c:Int) % 16=(qr:Int):=oM;have aE:IntKind.u8.wrap (qi:Int)=(qi:Int):=by simp[IntKind.wrap,IntKind.bits,IntKind.signed];omega
    have gQ:IntKind.u8.wrap (qr:Int)=(qr:Int):=by simp[IntKind.wrap,IntKind.bits,IntKind.signed];omega
    have AF:(qi:Int)<26:=oM;have Ut:(qr:Int)<26:=oM;obtain⟨u,hu⟩:=zE (lettersB[qi]!);obtain⟨v,hv⟩:=zE (lettersB[qr]!);rw[hu]at hx e1;rw[hv]at hy e1;obtain⟨qx,uK⟩:=zE u.toNat;obtain⟨qy,zP⟩:=zE v.toNat;rw[uK]at hx;rw[zP]at hy;replace uK:=Lib.hid uK;replace zP:=Lib.hid zP;replace e1:=Lib.hid e1;clear hu hv hz oz hi hr;rcases(show c<65\/(90<c/\c<97)\/122<c from oM)with h1|⟨h1,h2⟩|h1
    ·have k1:¬(97:Int)<=c:=oM
     have k2:¬(65:Int)<=c:=oM;exact yac
    ·have k1:¬(97:Int)<=c:=oM
     have k2:(65:Int)<=c:=oM;have k3:¬(c:Int)<=90:=oM;exact yac
    ·have k1:(97:Int)<=c:=oM
     have k2:¬(c:Int)<=122:=oM;have k3:(65:Int)<=c:=oM;have k4:¬(c:Int)<=90:=oM;exact yac
end
end Go.Proofs.YtfocdbjceedagaaGreatDoor
