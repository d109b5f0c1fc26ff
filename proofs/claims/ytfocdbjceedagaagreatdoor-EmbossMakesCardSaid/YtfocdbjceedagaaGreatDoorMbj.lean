/-
  Parts.
-/
import Derived.Test.YtfocdbjceedagaaGreatDoorMbg
set_option linter.unusedVariables false
set_option linter.unusedSimpArgs false
namespace Go.Proofs.YtfocdbjceedagaaGreatDoor
open Tryz
section
open Go Go.RowKit Go.Shelf Go.Lib
attribute [local go_sem] Oper.semAt_some
attribute [local go_sem ↓] Go.wp_at_zero Go.wp_at_succ
section
variable {n0:Nat}{W W':World}{t tg:TypeId}{s g n:Nat}{v:Value}{xs:List Value}{cur c:Array Value}{B:Nat}
theorem c7f {k:Nat}(h:W.ownsRow n0 t s v n xs)(e:v.ownBlock=some k):∃c,Blk W k c t:=by
 rcases h.2 with⟨rfl,-⟩|⟨g,cap,cur,rfl,h1,h2,-⟩
 ·cases e
 ·cases e
  exact⟨cur,h2⟩
end
section
variable {n0:Nat}{W W':World}{B da ka la dc kc lc:Nat}{D:List Dt}{K:List Ke}{L:List Lf}
end
section
variable {n0:Nat}{W W':World}{B da ka la dc kc lc:Nat}{D:List Dt}{K:List Ke}{L:List Lf}
theorem d4v {α:Type}{E:El α}(hE:E.Ok){base g cap:Nat}{l:List α}(h:W.ownsRow base E.t E.s (.slice (some ⟨g,0,none⟩) l.length cap) l.length (l.flatMap E.enc))(hl:l.length<=100000){p i:Nat}(hp:p<l.length)(hi:i<E.s):W.cell? ⟨g,p*E.s+i,none⟩=(E.enc l[p])[i]?/\W.frozen? ⟨g,p*E.s+i,none⟩=false:=by
 obtain⟨b',off',cap',e,-,-,hc⟩:=(a0h hE h oM).some_ oM;simp only[Value.slice.injEq,Option.some.injEq,Addr.mk.injEq]at e;obtain⟨⟨rfl,rfl,-⟩,-,-⟩:=e;have h1:=hc p hp i hi;rw[Nat.zero_add]at h1;exact⟨h1,h.frozenAt _⟩
theorem d4w {t:TypeId}{s n:Nat}{v:Value}{xs:List Value}(h:W.ownsRow n0 t s v n xs)(hn:0<n):∃g c,v= .slice (some ⟨g,0,none⟩) n c:=by
 rcases h.2 with⟨-,h2⟩|⟨g,cap,cur,h1,-⟩
 ·omega
 ·exact⟨g,cap,h1⟩
end
end
end Go.Proofs.YtfocdbjceedagaaGreatDoor
