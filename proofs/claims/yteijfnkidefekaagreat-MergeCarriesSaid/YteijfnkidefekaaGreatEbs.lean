/-
  Parts.
-/
import Derived.Test.YteijfnkidefekaaGreatEbg
set_option linter.unusedVariables false
set_option linter.unusedSimpArgs false
set_option linter.unusedSectionVars false
namespace Go.Proofs.YteijfnkidefekaaGreat
open Tryz
section
theorem b6g (a:Mp):a2c a a=true:=by
 unfold a2c;simp
theorem b9f (x:Ek):a5r x x=[]:=by
 unfold a5r;rw[List.filterMap_eq_nil_iff];intro n _;rw[if_pos rfl]
theorem b9g (a:Mp)(R:List Int)(hR:∀i,i∈R↔(i∈a.w.map Wk.id/\i∉a.w.map Wk.id)\/(i∈a.p.map Pc.id/\i∉a.p.map Pc.id)):a2m R a a=[]:=by
 have h0:R=[]:=List.eq_nil_iff_forall_not_mem.2 λi hi=>by
  rcases(hR i).1 hi with h|h
  ·exact h.2 h.1
  ·exact h.2 h.1
 subst h0;unfold a2m;have h1:a.f.filter (λx=>decide (x∉a.f))=[]:=List.filter_eq_nil_iff.2 λx hx=>by simpa using hx
 have h2:a.w.filter (λx=>decide (x∉a.w))=[]:=List.filter_eq_nil_iff.2 λx hx=>by simpa using hx
 have h3:a.p.filter (λx=>decide (x∉a.p))=[]:=List.filter_eq_nil_iff.2 λx hx=>by simpa using hx
 have h4:((a.e.zip a.e).flatMap λq=>a5r q.1 q.2)=[]:=List.flatMap_eq_nil_iff.2 λq hq=>by
  have:q.1=q.2:=a5s (λx=>x) (λx=>x) rfl q hq;rw[this];exact b9f _
 rw[h1,h2,h3,h4];rfl
theorem a5j {m t a b:Mp}(ha:NormR m a)(hb:NormR t b)(hn:(ids m).Nodup)(h1:m.e.Perm t.e)(h2:m.f.Perm t.f)(h3:m.w.Perm t.w)(h4:m.p.Perm t.p):a=b:=by
 obtain⟨n1,n2,n3,n4,-⟩:=a5h hn;refine Mp.ext' (a1q Ek.id ha.e.2 hb.e.2 (ha.e.1.symm.trans (h1.trans hb.e.1)) ?_) (a1q Fc.id ha.f.2 hb.f.2 (ha.f.1.symm.trans (h2.trans hb.f.1)) ?_) (a1q Wk.id ha.w.2 hb.w.2 (ha.w.1.symm.trans (h3.trans hb.w.1)) ?_) (a1q Pc.id ha.p.2 hb.p.2 (ha.p.1.symm.trans (h4.trans hb.p.1)) ?_)
 ·exact(ha.e.1.map _).nodup_iff.1 n1
 ·exact(ha.f.1.map _).nodup_iff.1 n2
 ·exact(ha.w.1.map _).nodup_iff.1 n3
 ·exact(ha.p.1.map _).nodup_iff.1 n4
theorem c4r {m t:Mp}(h1:m.e.Perm t.e)(h2:m.f.Perm t.f)(h3:m.w.Perm t.w)(h4:m.p.Perm t.p):(ids m).Nodup↔(ids t).Nodup :=
 List.Perm.nodup_iff ((h1.map _).append ((h2.map _).append ((h3.map _).append (h4.map _))))
end
end Go.Proofs.YteijfnkidefekaaGreat
