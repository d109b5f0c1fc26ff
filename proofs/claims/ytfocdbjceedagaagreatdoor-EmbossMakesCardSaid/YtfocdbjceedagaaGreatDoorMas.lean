/-
  Parts.
-/
import Derived.Test.YtfocdbjceedagaaGreatDoorMar
set_option linter.unusedVariables false
set_option linter.unusedSimpArgs false
set_option maxHeartbeats 4000000
set_option maxRecDepth 100000
namespace Go.Proofs.YtfocdbjceedagaaGreatDoor
open Tryz
section
open Go Go.RowKit Go.Shelf
attribute [local go_sem] Oper.semAt_some
abbrev d6r (l:List UInt8):Array Value:=(l.map λb=>Value.int .i64 (b.toNat:Int)).toArray
def FEc (w0:World)(c qi qr qx qy:Nat)(i:Nat)(v:Value)(w:World):Prop :=
 match i with
 |0=>∃L,v= .slice (some ⟨L,0,none⟩) 26 26/\Blk w L b7o 3
 |1=>v= .int .u8 (c:Nat)
 |2=>v= .int .u8 (qi:Nat)
 |3=>∃L,v= .pointer (some ⟨L,qi,none⟩)/\Blk w L b7o 3
 |4=>v= .int .i64 (qx:Nat)
 |5=>∃L,v= .slice (some ⟨L,0,none⟩) 26 26/\Blk w L b7o 3
 |6=>v= .int .u8 (c:Nat)
 |7=>v= .int .u8 (qr:Nat)
 |8=>∃L,v= .pointer (some ⟨L,qr,none⟩)/\Blk w L b7o 3
 |9=>v= .int .i64 (qy:Nat)
 |10=>∃L,v= .slice (some ⟨L,0,none⟩) 3 3/\Blk w L #[.int .i64 8,.int .i64 (qx:Nat),.int .i64 (qy:Nat)] 3
 |_=>False
theorem FEc.kept {w0:World}{c qi qr qx qy:Nat}{i:Nat}{v:Value}{w w':World}(h:FEc w0 c qi qr qx qy i v w)(hg:Below w.heap.size w w'):FEc w0 c qi qr qx qy i v w':=by
 unfold FEc at *;exact yeb
theorem c2m (s:ByteArray)(n:Nat)(h0:n<s.size)(c:Nat)(hc:(s[n]'h0).toNat=c)(hok:32<=c/\c<=126)(hl:s.size<=1000)(w:World) :
 Calls prog 148 #[.string s,.int .i64 n] w λe w'=>∃B,e= .returned (.slice (some ⟨B,0,none⟩) (cellAt (a5r s n) c).length (cellAt (a5r s n) c).length)/\Below w.heap.size w w'/\Blk w' B (d6r (cellAt (a5r s n) c)) 3:=by
 obtain⟨af,haf⟩:=zE (a5r s n);rw[haf];have hlt:(n:Int)<(s.size:Int):=oM
 -- the head, in each of its three ways
 have hd:(n=0/\af=false)\/∃(h1:0<n) (d:Nat),(s[n-1]'(by omega)).toNat=d/\(decide (48<=(d:Int))&&decide ((d:Int)<=57))=af:=by
  by_cases hn:n=0
  ·subst hn
   exact .inl ⟨rfl,by rw[<-haf];rfl⟩
  ·refine .inr ⟨oM,_,rfl,?_⟩
   rw[<-haf];unfold a5r;rw[getElem!_pos s (n-1) oM,decide_eq_true (show 0<n by omega),Bool.true_and];have e1:∀d:Nat,decide (48<=(d:Int))=decide (48<=d):=λd=>by simp only[decide_eq_decide];omega
   have e2:∀d:Nat,decide ((d:Int)<=57)=decide (d<=57):=λd=>by simp only[decide_eq_decide];omega
   rw[e1,e2]
 clear haf;have hcases:(97<=c/\c<=106/\af=true)\/(97<=c/\c<=106/\af=false)\/(107<=c/\c<=122)\/(65<=c/\c<=90)\/(48<=c/\c<=57/\af=true)\/(48<=c/\c<=57/\af=false)\/((c<48\/57<c)/\(c<65\/90<c)/\(c<97\/122<c)):=by
  cases af <;> simp <;> omega
 replace hcases:=Lib.hid hcases;go_enter func148,ntmps148;go_upto_region 2 with(first|(refine a0j qM 9 _ _ qM s .i64 (n:Nat) qM qM underlying9 _ oM oM (by rw[<-hc];rfl) ?_)|fail);go_cut [6] (λv wx=>v= .bool af/\wx=w)
 case first =>
  clear hcases;rcases hd with⟨rfl,rfl⟩|⟨h1,d,hd,hb⟩
  ·exact ygh
  ·have hp:0<(n:Int):=oM
   have hw0:IntKind.i64.wrap ((n:Int)-1)=(n:Int)-1:=a1m oM oM;replace hb:=Lib.hid hb;go_wp2_with (first
    |(refine a0j qM 9 _ _ qM s .i64 ((n:Int)-1) qM qM underlying9 d oM oM (by rw[<-hd];congr 2;congr 1;omega) ?_)
    |(go_at_call 167;with_reducible refine(a2t d af hb.out _).mono ?_;rintro e w'⟨rfl,rfl⟩))
   go_meet;exact⟨rfl,rfl⟩
 case rest =>
  obtain⟨rfl,hwE⟩:=hcut;subst hwE;clear hd hc;have hcs:=hcases.out;clear hcases;rcases hcs with⟨k0,k9,rfl⟩|⟨k0,k9,rfl⟩|⟨k0,k9⟩|⟨k0,k9⟩|⟨k0,k9,rfl⟩|⟨k0,k9,rfl⟩|⟨k0,k8,k9⟩
  ·have e1:cellAt true c=[48,lettersB[c-97]!]:=by
    unfold cellAt;rw[if_pos oM];rw[show(true&&decide (c<=106))=true by simp;omega];rfl
   exact ydd
  ·have e1:cellAt false c=[lettersB[c-97]!]:=by
    unfold cellAt;rw[if_pos oM];rfl
   exact ydd
  ·have e1:cellAt af c=[lettersB[c-97]!]:=by
    unfold cellAt;rw[if_pos oM];rw[show(af&&decide (c<=106))=false by simp;omega];rfl
   obtain⟨j,hj⟩:=zE (c-97);rw[hj]at e1;have hw:IntKind.u8.wrap ((c:Int)-97)=(j:Int):=by simp[IntKind.wrap,IntKind.bits,IntKind.signed];omega
   have hx:=b4w (j:=j) oM;obtain⟨u,hu⟩:=zE (lettersB[j]!);rw[hu]at hx e1;have k1:(97:Int)<=c:=oM;have k2:(c:Int)<=122:=oM;have k3:¬(c:Int)<=106:=oM;exact ybi
  ·have e1:cellAt af c=[32,lettersB[c-65]!]:=by
    unfold cellAt;rw[if_neg oM,if_pos oM]
   obtain⟨j,hj⟩:=zE (c-65);rw[hj]at e1;have hw:IntKind.u8.wrap ((c:Int)-65)=(j:Int):=by simp[IntKind.wrap,IntKind.bits,IntKind.signed];omega
   have hx:=b4w (j:=j) oM;obtain⟨u,hu⟩:=zE (lettersB[j]!);rw[hu]at hx e1;have k1:¬(97:Int)<=c:=oM;have k2:(65:Int)<=c:=oM;have k3:(c:Int)<=90:=oM;exact ybi
  ·have e1:cellAt true c=[lettersB[(c-48+9) % 10]!]:=by
    unfold cellAt;rw[if_neg oM,if_neg oM,if_pos oM];rfl
   exact yaq
  ·have e1:cellAt false c=[60,lettersB[(c-48+9) % 10]!]:=by
    unfold cellAt;rw[if_neg oM,if_neg oM,if_pos oM];rfl
   exact yaq
  ·have hdg:=Lib.hid (show(decide (48<=(c:Int))&&decide ((c:Int)<=57))=false by simp;omega)
   have hsg:=d6q (c:=c) oM;have hsn:=λW=>c6g c W
   by_cases hz:0<=a5b c
   ·rw[if_pos hz]at hsg
    have e1:cellAt af c=[signedB[(a5b c).toNat]!]:=by
     unfold cellAt;rw[if_neg oM,if_neg oM,if_neg oM,if_pos hz]
    obtain⟨u,hu⟩:=zE (signedB[(a5b c).toNat]!);rw[hu]at hsg e1;simp only[hsg]at hsn;have hu0:(0:Int)<=(u.toNat:Int):=oM;replace e1:=Lib.hid e1;clear hu hz hsg;rcases(show c<65\/(90<c/\c<97)\/122<c from oM)with h1|⟨h1,h2⟩|h1
    ·have k1:¬(97:Int)<=c:=oM
     have k2:¬(65:Int)<=c:=oM;exact ybo
    ·have k1:¬(97:Int)<=c:=oM
     have k2:(65:Int)<=c:=oM;have k3:¬(c:Int)<=90:=oM;exact ybo
    ·have k1:(97:Int)<=c:=oM
     have k2:¬(c:Int)<=122:=oM;have k3:(65:Int)<=c:=oM;have k4:¬(c:Int)<=90:=oM;exact ybo
   ·rw[if_neg hz]at hsg
    have e1:cellAt af c=[8,lettersB[c / 16]!,lettersB[c % 16]!]:=by
     unfold cellAt;rw[if_neg oM,if_neg oM,if_neg oM,if_neg hz]
    simp only[hsg]at hsn;obtain⟨qi,hi⟩:=zE (c / 16);obtain⟨qr,hr⟩:=zE (c % 16);rw[hi,hr]at e1;have hx:=b4w (j:=qi) oM;have hy:=b4w (j:=qr) oM;have hdv:Int.tdiv (c:Int) 16=(qi:Int):=by rw[Int.tdiv_eq_ediv_of_nonneg oM];omega
    have hrm:Int.tmod (c:Int) 16=(qr:Int):=by rw[Int.tmod_eq_emod_of_nonneg oM];omega
    have hdv2:(c:Int) / 16=(qi:Int):=oM;have hrm2:(c:Int) % 16=(qr:Int):=oM;have hw1:IntKind.u8.wrap (qi:Int)=(qi:Int):=by simp[IntKind.wrap,IntKind.bits,IntKind.signed];omega
    have hw2:IntKind.u8.wrap (qr:Int)=(qr:Int):=by simp[IntKind.wrap,IntKind.bits,IntKind.signed];omega
    have hiI:(qi:Int)<26:=oM;have hrI:(qr:Int)<26:=oM;obtain⟨u,hu⟩:=zE (lettersB[qi]!);obtain⟨v,hv⟩:=zE (lettersB[qr]!);rw[hu]at hx e1;rw[hv]at hy e1;obtain⟨qx,hqx⟩:=zE u.toNat;obtain⟨qy,hqy⟩:=zE v.toNat;rw[hqx]at hx;rw[hqy]at hy;replace hqx:=Lib.hid hqx;replace hqy:=Lib.hid hqy;replace e1:=Lib.hid e1;clear hu hv hz hsg hi hr;rcases(show c<65\/(90<c/\c<97)\/122<c from oM)with h1|⟨h1,h2⟩|h1
    ·have k1:¬(97:Int)<=c:=oM
     have k2:¬(65:Int)<=c:=oM;exact yac
    ·have k1:¬(97:Int)<=c:=oM
     have k2:(65:Int)<=c:=oM;have k3:¬(c:Int)<=90:=oM;exact yac
    ·have k1:(97:Int)<=c:=oM
     have k2:¬(c:Int)<=122:=oM;have k3:(65:Int)<=c:=oM;have k4:¬(c:Int)<=90:=oM;exact yac
end
end Go.Proofs.YtfocdbjceedagaaGreatDoor
