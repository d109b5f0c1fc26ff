/-
  Parts.
-/
import Derived.Test.YteijfnkidefekaaGreatEbo
set_option linter.unusedVariables false
set_option linter.unusedSimpArgs false
set_option linter.unusedSectionVars false
namespace Go.Proofs.YteijfnkidefekaaGreat
open Tryz
section
open Go Go.RowKit Go.Shelf Go.Lib Go.Maps
theorem b6c {α:Type}(k:α->Int)(y:α):∀l:List α,(put k y l).length<=l.length+1
 |[]=>by simp[put]
 |x::l=>by
  unfold put;split
  ·simp
  ·have:=b6c k y l
   simp only[List.length_cons];omega
theorem b9c (m:Mp)(d:Ed):(a2b m d).w.length<=m.w.length+if d.kind=2 then 1 else 0:=by
 unfold a2b;by_cases h4:d.kind=4
 ·rw[if_pos h4,if_neg xM]
  exact List.length_filter_le _ _
 rw[if_neg h4];by_cases h1:d.kind=1
 ·rw[if_pos h1,if_neg xM]
  exact yR _
 rw[if_neg h1];by_cases h2:d.kind=2
 ·rw[if_pos h2,if_pos h2]
  exact b6c _ _ _
 rw[if_neg h2,if_neg h2];by_cases h3:d.kind=3
 ·rw[if_pos h3]
  exact yR _
 rw[if_neg h3];split <;> exact yR _
theorem b9d (m:Mp)(d:Ed):(a2b m d).p.length<=m.p.length+if d.kind=3 then 1 else 0:=by
 unfold a2b;by_cases h4:d.kind=4
 ·rw[if_pos h4,if_neg xM]
  exact List.length_filter_le _ _
 rw[if_neg h4];by_cases h1:d.kind=1
 ·rw[if_pos h1,if_neg xM]
  exact yR _
 rw[if_neg h1];by_cases h2:d.kind=2
 ·rw[if_pos h2,if_neg xM]
  exact yR _
 rw[if_neg h2];by_cases h3:d.kind=3
 ·rw[if_pos h3,if_pos h3]
  exact b6c _ _ _
 rw[if_neg h3,if_neg h3];split <;> exact yR _
def a9j (k:Int)(l:List Ed):Nat:=l.countP λd=>decide (d.kind=k)
theorem b4a :∀(l:List Ed) (m:Mp),(l.foldl a2b m).w.length<=m.w.length+a9j 2 l
 |[],m=>by simp[a9j]
 |d::l,m=>by
  have h1:=b4a l (a2b m d);have h2:=b9c m d;have h3:a9j 2 (d::l)=a9j 2 l+if d.kind=2 then 1 else 0:=by
   unfold a9j;rw[List.countP_cons];simp
  rw[List.foldl_cons,h3];omega
theorem b4b :∀(l:List Ed) (m:Mp),(l.foldl a2b m).p.length<=m.p.length+a9j 3 l
 |[],m=>by simp[a9j]
 |d::l,m=>by
  have h1:=b4b l (a2b m d);have h2:=b9d m d;have h3:a9j 3 (d::l)=a9j 3 l+if d.kind=3 then 1 else 0:=by
   unfold a9j;rw[List.countP_cons];simp
  rw[List.foldl_cons,h3];omega
theorem b4c (k:Int)(l:List Ed)(n:Nat):a9j k (l.take n)<=a9j k l:=(List.take_sublist n l).countP_le
theorem a2t (k:Int)(l:List Ed)(h:∀d∈l,d.kind≠k):a9j k l=0:=by
 unfold a9j;rw[List.countP_eq_zero];intro d hd;simpa using h d hd
theorem a3h (k:Int)(a b:List Ed):a9j k (a++b)=a9j k a+a9j k b:=List.countP_append
theorem b7n (a b:Mp):∀d∈(a.e.zip b.e).flatMap (λq=>a5r q.1 q.2),d.kind=5:=λd hd=>by
 obtain⟨q,-,hq⟩:=List.mem_flatMap.1 hd;exact(a4j hq).1
theorem c8w (R:List Int)(a b:Mp):a9j 2 (a2m R a b)<=b.w.length:=by
 unfold a2m;rw[a3h,a3h,a3h,a3h];rw[a2t 2 (R.map a9e) (λd hd=>by obtain⟨x,-,rfl⟩:=List.mem_map.1 hd;show(4:Int)≠2;decide),a2t 2 (List.map a8l _) (λd hd=>by obtain⟨x,-,rfl⟩:=List.mem_map.1 hd;show(1:Int)≠2;decide),a2t 2 (List.map a3k _) (λd hd=>by obtain⟨x,-,rfl⟩:=List.mem_map.1 hd;show(3:Int)≠2;decide),a2t 2 (List.flatMap _ _) (λd hd=>by rw[b7n a b d hd];decide)];have h1:a9j 2 ((b.w.filter λx=>decide (x∉a.w)).map b2l)<=((b.w.filter λx=>decide (x∉a.w)).map b2l).length:=List.countP_le_length;rw[List.length_map]at h1;have h2:=List.length_filter_le (λx=>decide (x∉a.w)) b.w;omega
theorem c8x (R:List Int)(a b:Mp):a9j 3 (a2m R a b)<=b.p.length:=by
 unfold a2m;rw[a3h,a3h,a3h,a3h];rw[a2t 3 (R.map a9e) (λd hd=>by obtain⟨x,-,rfl⟩:=List.mem_map.1 hd;show(4:Int)≠3;decide),a2t 3 (List.map a8l _) (λd hd=>by obtain⟨x,-,rfl⟩:=List.mem_map.1 hd;show(1:Int)≠3;decide),a2t 3 (List.map b2l _) (λd hd=>by obtain⟨x,-,rfl⟩:=List.mem_map.1 hd;show(2:Int)≠3;decide),a2t 3 (List.flatMap _ _) (λd hd=>by rw[b7n a b d hd];decide)];have h1:a9j 3 ((b.p.filter λx=>decide (x∉a.p)).map a3k)<=((b.p.filter λx=>decide (x∉a.p)).map a3k).length:=List.countP_le_length;rw[List.length_map]at h1;have h2:=List.length_filter_le (λx=>decide (x∉a.p)) b.p;omega
theorem c2e (R:List Int)(a b:Mp):∀d∈a2m R a b,(d.kind=1\/d.kind=2\/d.kind=3\/d.kind=4\/d.kind=5)/\(d.kind=5->∃y∈b.e,∃n:Nat,d.n=n/\n<y.line.length):=by
 intro d hd;unfold a2m at hd;simp only[List.mem_append]at hd;rcases hd with hd|hd|hd|hd|hd
 ·obtain⟨x,-,rfl⟩:=List.mem_map.1 hd
  exact⟨.inr (.inr (.inr (.inl rfl))),λh=>absurd (show(4:Int)=5 from h) jM⟩
 ·obtain⟨x,-,rfl⟩:=List.mem_map.1 hd
  exact⟨.inl rfl,λh=>absurd (show(1:Int)=5 from h) jM⟩
 ·obtain⟨x,-,rfl⟩:=List.mem_map.1 hd
  exact⟨.inr (.inl rfl),λh=>absurd (show(2:Int)=5 from h) jM⟩
 ·obtain⟨x,-,rfl⟩:=List.mem_map.1 hd
  exact⟨.inr (.inr (.inl rfl)),λh=>absurd (show(3:Int)=5 from h) jM⟩
 ·obtain⟨q,hq,hd⟩:=List.mem_flatMap.1 hd
  refine⟨.inr (.inr (.inr (.inr (a4j hd).1))),λ_=> ?_⟩;unfold a5r at hd;obtain⟨n,hn,he⟩:=List.mem_filterMap.1 hd;split at he
  ·cases he
  ·cases he
   exact⟨q.2,(List.of_mem_zip hq).2,n,rfl,List.mem_range.1 hn⟩
structure GoodEt (x:Et):Prop where
 k:x.kind=1\/x.kind=2\/x.kind=3\/x.kind=4\/x.kind=5
 w:a0l x.w.id
 p:a0l x.p.id
 n:x.kind=5->a0l x.n
theorem c2f (x0 x1 x2 x3:Option Addr)(c0 c1 c2 c3:Nat)(E:List Eg)(Fa:List Fc)(Y:List Wq)(P:List Pc)(x:Et)(hx:GoodEt x)(hY:Y.length<1000)(hP:P.length<1000)(w:Wd)(hV:MapV w.heap.size w (.slice x0 E.length c0) (.slice x1 Fa.length c1) (.slice x2 Y.length c2) (.slice x3 P.length c3) E Fa Y P)(il:Ln w.heap.size w x.w.sl x.w.line) :
 Calls prog 7 #[.agg #[.slice x0 E.length c0,.slice x1 Fa.length c1,.slice x2 Y.length c2,.slice x3 P.length c3],etV x] w (c6q E Fa Y P x w):=by
 rcases hx.k with h|h|h|h|h
 ·exact b9b x0 x1 x2 x3 c0 c1 c2 c3 E Fa Y P x h w hV
 ·exact c2d x0 x1 x2 x3 c0 c1 c2 c3 E Fa Y P x h hx.w hY w hV il
 ·exact b5y x0 x1 x2 x3 c0 c1 c2 c3 E Fa Y P x h hx.p hP w hV
 ·exact c2b x0 x1 x2 x3 c0 c1 c2 c3 E Fa Y P x h w hV
 ·exact b6b x0 x1 x2 x3 c0 c1 c2 c3 E Fa Y P x h (hx.n h) w hV
end
end Go.Proofs.YteijfnkidefekaaGreat
