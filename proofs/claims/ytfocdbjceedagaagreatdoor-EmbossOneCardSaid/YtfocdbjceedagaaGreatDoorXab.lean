/-
  Parts.
-/
import Derived.Test.YtfocdbjceedagaaGreatDoorChecked
import Derived.Test.YtfocdbjceedagaaGreatDoorXaa
import Derived.Test.YtfocdbjceedagaaGreatDoorXac
import Derived.Shelf.Slices.Turned
import Derived.Ground.Names2Prog
import Derived.Shelf.Slices.SearchI
import Derived.Deep.AppendLies
import Derived.Deep.AppendSrc
import Derived.Deep.RegionLaw
import Derived.Deep.CutBlock
import Derived.Deep.DeepCutAuto
import Derived.Deep.DrawnRows
import Ieee.Arith
import GoSem.Core.Float
import Derived.Laws.FloatArith
import Derived.Maps.OwnSet
import Derived.Maps.OwnIn
import Derived.Maps.RangeWalk
import Derived.DeepKeys4
import Derived.Shelf.Abstract
import Derived.Lib.SliceRun
import Derived.Shelf.SlicesQ.Index
import Derived.Shelf.GgSortFunc.RowK
import Derived.Shelf.SlSortCmp.InsertionK
import Derived.RangeFuncOwn
import Derived.RangeFuncBox
import Derived.RangeFuncLeaves
import Derived.RangeFuncNested
import Derived.RangeFuncBound
import Derived.RangeFuncCalls
import Derived.RangeFuncSeq
import Derived.Laws.MakeOwn
set_option linter.unusedVariables false
set_option linter.unusedSimpArgs false
set_option maxHeartbeats 2000000
set_option maxRecDepth 100000
namespace Go
section
open Go.RowKit
section
variable {P:Program}{ops:Array Oper}
def c1e {Γ:Type}(ops:Array Oper)(F:Nat→Value→Γ→World→Prop)(i:Nat)(b:Act)(g:Γ)(w:World):Prop:=∀o d,ops[i]? =some o→o.dst=some d→F i (b.eval (.tmp d)) g w
theorem a0f {Γ:Type}{F:Nat→Value→Γ→World→Prop}{o:Oper}{b:Act}{g:Γ}{w:World}(h:∀e∈o.after,Region.binds .any e=true→c1e ops F e.on b g w)(j d:Nat){oj:Oper}
 (h1:(o.after.any fun e=>Region.binds .any e&&e.on==j)=true) (h2:ops[j]? =some oj) (h3:oj.dst=some d):F j (b.eval (.tmp d)) g w:=by
 obtain⟨i,hi,h4⟩:=Array.any_eq_true.1 h1;simp only[Bool.and_eq_true,beq_iff_eq] at h4;have:=h o.after[i] (Array.getElem_mem hi) h4.1;rw[h4.2] at this;exact this oj d h2 h3
theorem c1f {Q:Exit→Act→World→Prop}{a:Act}{l:List Oper}{n:Nat}(hn:n<l.toArray.size)(hs:Region.sinkB .any l.toArray n=true)(hc:Region.chainB .any l.toArray n=true)
 (hh:∀i,i<n→∃o d,HeadOkG l.toArray n a.tmps.size i o d) (hseq:Region.seqB .any l.toArray (l.toArray.size-n) n (Array.replicate n true++Array.replicate (l.toArray.size-n) false)=true)
 {Γ:Type} (I:Nat→Γ→World→Prop) (G:Γ→World→Γ→World→Prop) (F:Nat→Value→Γ→World→Prop) (hF:∀i v g w g' w',F i v g w→G g w g' w'→F i v g' w')
 (hstep:∀i o,i<n→l.toArray[i]? =some o→∀c b g w',c<n→I c g w'→Agree l.toArray n a b→(∀e∈o.after,Region.binds .any e=true→c1e l.toArray F e.on b g w') →
  ∀K:Act→World→Prop,(∀v g' w'',F i v g' w''→G g w' g' w''→I (c+1) g' w''→K (b.put o.dst v) w'')→if Region.wanted o (yielded l.toArray b.tmps) then Oper.wp P o b w' K Q else K (b.put o.dst undef) w')
 (htail:∀b g w',I n g w'→Agree l.toArray n a b→(∀i,i<n→c1e l.toArray F i b g w')→wpList P l.toArray Q (l.drop n) b w') :
 ∀(f c:Nat) (s:Array Bool) (b:Act) (g:Γ) (w':World),c+f=n→b5m s n=c→HeadInv .any l.toArray n s→I c g w'→Agree l.toArray n a b→(∀j,j<n→s.getD j false=true→c1e l.toArray F j b g w') →
  wpAny P .any l.toArray Q (f+(l.toArray.size-n)) s b w':=by
 intro f;induction f with
 |zero =>
  intro c s b g w' hcf hcnt inv hI hA hL;obtain rfl:c=n:=by omega
  have hall:=a9s hcnt;have hsl:s=Array.replicate c true++Array.replicate (l.toArray.size-c) false:=by
   apply Array.ext
   ·rw[inv.size];simp;simp at hn;omega
   ·intro i h1 h2
    by_cases hi:i<c
    ·have:=hall i hi
     rw[Array.getElem_append_left (by simpa using hi)];simpa [Array.getD,h1] using this
    ·have:=inv.tail i (by omega) (by rw[←inv.size];exact h1)
     rw[Array.getElem_append_right (by simp;omega)];simpa [Array.getD,h1] using this
  rw[Nat.zero_add,hsl];have h:=wpAny_of_seq (P:=P) (md:= .any) (Q':=Q) (ops:=l.toArray) (l.drop c) c (Array.replicate c true++Array.replicate (l.toArray.size-c) false) b w' (fun j=>by simp[List.getElem?_drop])
   (by rw[List.length_drop,show l.length=l.toArray.size from by simp];exact hseq) (htail b g w' hI hA (fun i hi=>hL i hi (hall i hi)))
  rw[List.length_drop,show l.length=l.toArray.size from by simp] at h;exact h
 |succ f ih =>
  intro c s b g w' hcf hcnt inv hI hA hL;obtain⟨i0,hi0,hf0⟩:=a7f (s:=s) (n:=n) (by omega);have hne:=c1d hh inv (i0+1) i0 (by omega) hi0 hf0;rw[show f+1+(l.toArray.size-n)=f+(l.toArray.size-n)+1 from by omega];refine⟨fun h=>absurd h hne,fun i hi=> ?_⟩;have hlt0:i0<s.size:=by rw[inv.size];omega
  have hin:i<n:=a7e hs hc hn inv hi0 (getD_in hlt0 hf0) i hi;obtain⟨hun,oi,hoi,haf⟩:=mem_ready.1 hi;obtain⟨o,d,ho⟩:=hh i hin;obtain rfl:oi=o:=Option.some.inj (hoi.symm.trans ho.op);have hlt:i<s.size:=by rw[inv.size];omega
  have hd:d<b.tmps.size:=by rw[hA.size];exact ho.lt
  unfold wpOp;simp only[hoi];have hst:=hstep i oi hin hoi c b g w' (by omega) hI hA (fun e he hb=>hL e.on (by have:=ho.after e he hb;omega) (haf e he hb)) (wpAny P .any l.toArray Q (f+(l.toArray.size-n)) (s.setIfInBounds i true)) ?_
  ·split at hst
   ·rename_i hwt
    rw[if_pos hwt];exact .inl hst
   ·rename_i hwt
    rw[if_neg hwt];exact hst
  intro v g' w'' h1 h2 h3;rw[ho.dst];have hoth:∀k,k≠d→(b.put (some d) v).eval (.tmp k)=b.eval (.tmp k):=fun k hk=>Act.eval_put (fun d' e=>by cases e;intro e2;cases e2;exact hk rfl)
  refine ih (c+1) _ _ _ _ (by omega) ?_ (inv.set hi hin) h3 ⟨by rw[Act.put_defers',hA.defers],by rw[Act.put_size,hA.size],fun k hk=> ?_⟩ ?_
  ·rw[a9t hlt (getD_both hun) hin,hcnt]
  ·rw[hoth k (fun e=>hk i oi hin hoi (by rw[ho.dst,e]))]
   exact hA.same k hk
  ·intro j hj hlj o' d' ho' hd'
   by_cases hji:j=i
   ·subst hji
    obtain rfl:o'=oi:=Option.some.inj (ho'.symm.trans hoi);obtain rfl:d'=d:=Option.some.inj (hd'.symm.trans ho.dst);rw[Act.eval_put_same hd];exact h1
   ·have hne':d'≠d:=fun e=>ho.other j o' hj hji ho' (by rw[hd',e])
    rw[hoth d' hne'];rw[getD_set_ne false (fun e=>hji e.symm)] at hlj;exact hF j _ _ _ _ _ (hL j hj hlj o' d' ho' hd') h2
theorem wp_region_reln {id:Nat}{Q:Exit→Act→World→Prop}{a:Act}{w:World}{l:List Oper}(n:Nat)(hm:P.follows .mixedOrders=true)(hB:Region.relGB l.toArray n a.tmps.size=true)
 {Γ:Type} (I:Nat→Γ→World→Prop) (G:Γ→World→Γ→World→Prop) (F:Nat→Value→Γ→World→Prop) (hF:∀i v g w g' w',F i v g w→G g w g' w'→F i v g' w') (g0:Γ) (h0:I 0 g0 w.drew)
 (hstep:∀i o,i<n→l.toArray[i]? =some o→∀c b g w',c<n→I c g w'→Agree l.toArray n a b→(∀e∈o.after,Region.binds .any e=true→c1e l.toArray F e.on b g w') →
  ∀K:Act→World→Prop,(∀v g' w'',F i v g' w''→G g w' g' w''→I (c+1) g' w''→K (b.put o.dst v) w'')→if Region.wanted o (yielded l.toArray b.tmps) then Oper.wp P o b w' K Q else K (b.put o.dst undef) w')
 (htail:∀b g w',I n g w'→Agree l.toArray n a b→(∀i,i<n→c1e l.toArray F i b g w')→wpList P l.toArray Q (l.drop n) b w') :
 (Code.region id l.toArray true).wp P Q a w:=by
 simp only[Region.relGB,Bool.and_eq_true,decide_eq_true_eq] at hB;obtain⟨⟨⟨⟨hn,hs⟩,hc⟩,hh⟩,hseq⟩:=hB;have hh':∀i,i<n→∃o d,HeadOkG l.toArray n a.tmps.size i o d:=fun i hi=>Region.headGB_spec (List.all_eq_true.1 hh i (List.mem_range.2 hi))
 have inv0:HeadInv .any l.toArray n (Array.replicate l.toArray.size false) :=
  ⟨by simp,fun j oj _ hl=>(by rw[getD_replicate_false] at hl;cases hl),fun t _ ht=>getD_in (by simpa using ht) (getD_replicate_false _ _)⟩
 refine wp_region_any hm ?_;have h:=c1f (P:=P) (Q:=Q) (a:=a) hn hs hc hh' hseq I G F hF hstep htail n 0 _ a g0 w.drew (by omega) (a7g n) inv0 h0 (Agree.refl _ _ _) (fun j hj hl=>by rw[getD_replicate_false] at hl;cases hl);rw[show n+(l.toArray.size-n)=l.toArray.size from by omega] at h;exact h
end
end
end Go
namespace Go.Proofs.YtfocdbjceedagaaGreatDoor
open Tryz
section
open Go.RowKit Go.Shelf
def a0k (n:Int):Prop := -9223372036854775808≤n∧n≤9223372036854775807
instance (n:Int):Decidable (a0k n):=inferInstanceAs (Decidable (_∧_))
theorem a0j (x:Int):a0k (wrap64 x):=by
 unfold a0k wrap64;omega
theorem a0m (x:Int):a0k (IntKind.i64.wrap x):=by
 unfold a0k;simp[IntKind.wrap,IntKind.bits,IntKind.signed];omega
theorem a0u {x:Int}(h0 : -9223372036854775808≤x)(h1:x≤9223372036854775807):IntKind.i64.wrap x=x:=by
 simp[IntKind.wrap,IntKind.bits,IntKind.signed];omega
def Blk (W:World)(B:Nat)(c:Array Value)(t:TypeId):Prop:=W.heap[B]? =some (.cells c t (0,0))
theorem Blk.kept {W W':World}{B:Nat}{c:Array Value}{t:TypeId}{row:Option Nat}(h:Blk W B c t)(hg:W.grownBy W' row)(hr:row≠some B):Blk W' B c t:=by
 exact (hg.block B (Array.getElem?_eq_some_iff.1 h).1 (fun e=>hr e.symm)).trans h
theorem Blk.new (W:World)(c:Array Value)(t:TypeId):Blk (W.alloc (.cells c t)) W.heap.size c t:=by unfold Blk World.alloc;simp
theorem Blk.alloc {W:World}{B:Nat}{c:Array Value}{t:TypeId}(h:Blk W B c t)(o:Obj):Blk (W.alloc o) B c t:=h.kept (World.grownBy_alloc W o none) (by simp)
theorem Blk.lt {W:World}{B:Nat}{c:Array Value}{t:TypeId}(h:Blk W B c t):B<W.heap.size:=(Array.getElem?_eq_some_iff.1 h).1
theorem Blk.cell {W:World}{B:Nat}{c:Array Value}{t:TypeId}(h:Blk W B c t)(i:Nat):W.cell? ⟨B,i,none⟩=c[i]? :=a4w h i
theorem Blk.frozen {W:World}{B:Nat}{c:Array Value}{t:TypeId}(h:Blk W B c t)(i:Nat):W.frozen? ⟨B,i,none⟩=false:=by
 unfold World.frozen?;rw[show W.heap[B]? =_ from h];simp
theorem Blk.below {W W':World}{B n₀:Nat}{c:Array Value}{t:TypeId}(h:Blk W B c t)(hb:Below n₀ W W')(hB:B<n₀):Blk W' B c t:=(hb.block B hB).trans h
theorem Blk.set {W:World}{B:Nat}{c:Array Value}{t:TypeId}(h:Blk W B c t)(i:Nat)(v:Value):Blk (W.setCell ⟨B,i,none⟩ v) B (c.setIfInBounds i v) t:=by
 unfold Blk at *;unfold World.setCell;simp[Array.getElem?_modify,h]
theorem Blk.other {W:World}{B B':Nat}{c:Array Value}{t:TypeId}(h:Blk W B c t)(hne:B≠B')(i:Nat)(v:Value):Blk (W.setCell ⟨B',i,none⟩ v) B c t:=by
 unfold Blk at *;rw[Below.heap_setCell _ _ _ _ (by simpa using hne)];exact h
theorem Blk.grow {W:World}{B:Nat}{c:Array Value}{t:TypeId}(h:Blk W B c t)(p:Growth):Blk (W.growBy p) B c t:=h.kept (a1a W p) (by simp)
theorem Blk.drew {W:World}{B:Nat}{c:Array Value}{t:TypeId}(h:Blk W B c t):Blk W.drew B c t:=h
theorem a0x {W W':World}{row:Option Nat}{base:Nat}{e:TypeId}{size:Nat}{v:Value}{k:Nat}{xs:List Value}(h:W.ownsRow base e size v k xs)(hg:W.grownBy W' row)
 (hrow:∀r,row=some r→∃o:Obj,W.heap[r]? =some o∧∀cur,o≠.cells cur e (0,0)):W'.ownsRow base e size v k xs:=by
 refine h.kept hg ?_;rcases h.2 with ⟨rfl,_⟩|⟨g,cap,cur,rfl,_,hgb,_⟩
 ·exact .inl rfl
 ·refine .inr fun e'=> ?_
  obtain⟨o,ho,hw⟩:=hrow g (by simpa [Value.ownBlock] using e'.symm);rw[hgb] at ho;cases ho;exact hw cur rfl
theorem a0s {W:World}{base:Nat}{e t:TypeId}{size:Nat}{v:Value}{k:Nat}{xs:List Value}(h:W.ownsRow base e size v k xs){B:Nat}{c:Array Value}(hb:Blk W B c t)(hne:t≠e):v.ownBlock≠some B:=by
 intro hj;rcases h.2 with ⟨rfl,_⟩|⟨g,cap,cur,rfl,_,hgb,_⟩
 ·simp[Value.ownBlock] at hj
 ·have:g=B:=by simpa [Value.ownBlock] using hj
  subst this;rw[show W.heap[g]? =_ from hb] at hgb
  cases hgb;exact hne rfl
structure El (α:Type) where
 t:TypeId
 s:Nat
 enc:α→List Value
structure El.Ok {α:Type}(E:El α):Prop where
 len:∀x,(E.enc x).length=E.s
 pos:0<E.s
 one:∀x,∀u∈E.enc x,u.oneCell'=true
def Lst {α:Type}(E:El α)(n₀:Nat)(W:World)(v:Value)(l:List α):Prop :=
 ∃a cap,v= .slice a l.length cap∧l.length≤cap∧l.length≤1000000∧∀j,(h:j<l.length)→∃b off,a=some ⟨b,off,none⟩∧b<n₀∧∀i,i<E.s→W.cell? ⟨b,off+j*E.s+i,none⟩=(E.enc l[j])[i]?
section
variable {α:Type}{E:El α}{n₀ n₁:Nat}{W W':World}{v:Value}{l:List α}
theorem Lst.nil (E:El α)(n₀:Nat)(W:World):Lst E n₀ W (.slice none 0 0) []:=⟨none,0,rfl,yR _,by simp,fun j hj=>by simp at hj⟩
theorem Lst.below (h:Lst E n₀ W v l)(hb:Below n₀ W W'):Lst E n₀ W' v l:=by
 obtain⟨a,cap,e,h1,h2,h3⟩:=h;exact⟨a,cap,e,h1,h2,fun j hj=>by
  obtain⟨b,off,e2,hlt,hc⟩:=h3 j hj;exact⟨b,off,e2,hlt,fun i hi=>(hb.cell (p:=⟨b,off+j*E.s+i,none⟩) hlt).trans (hc i hi)⟩⟩
theorem Lst.mono (h:Lst E n₀ W v l)(hn:n₀≤n₁):Lst E n₁ W v l:=by
 obtain⟨a,cap,e,h1,h2,h3⟩:=h;exact⟨a,cap,e,h1,h2,fun j hj=>by
  obtain⟨b,off,e2,hlt,hc⟩:=h3 j hj;exact⟨b,off,e2,Nat.lt_of_lt_of_le hlt hn,hc⟩⟩
theorem Lst.up (h:Lst E W.heap.size W v l)(hb:Below W.heap.size W W'):Lst E W'.heap.size W' v l:=(h.below hb).mono hb.size
theorem Lst.form (h:Lst E n₀ W v l):∃a cap,v= .slice a l.length cap∧l.length≤cap:=by
 obtain⟨a,cap,e,h1,-⟩:=h;exact⟨a,cap,e,h1⟩
theorem Lst.len (h:Lst E n₀ W v l):l.length≤1000000:=by
 obtain⟨a,cap,e,h1,h2,-⟩:=h;exact h2
theorem Lst.some_ (h:Lst E n₀ W v l)(hl:0<l.length):∃b off cap,v= .slice (some ⟨b,off,none⟩) l.length cap∧l.length≤cap∧b<n₀∧∀j,(h:j<l.length)→∀i,i<E.s→W.cell? ⟨b,off+j*E.s+i,none⟩=(E.enc l[j])[i]? :=by
 obtain⟨a,cap,rfl,h1,h2,h3⟩:=h;obtain⟨b,off,rfl,hlt,-⟩:=h3 0 hl;refine⟨b,off,cap,rfl,h1,hlt,fun j hj i hi=> ?_⟩;obtain⟨b',off',e,-,hc⟩:=h3 j hj
 cases e;exact hc i hi
theorem b0d (hE:E.Ok):∀(l:List α)(j i:Nat)(h:j<l.length),i<E.s→(l.flatMap E.enc)[j*E.s+i]? =(E.enc l[j])[i]?
 |[],j,i,h,_=>by simp at h
 |d::l,0,i,_,hi=>by
  rw[List.flatMap_cons,Nat.zero_mul,Nat.zero_add,List.getElem?_append_left (by rw[hE.len];exact hi)];rfl
 |d::l,j+1,i,h,hi=>by
  have ih:=b0d hE l j i (by simpa using h) hi;rw[List.flatMap_cons,List.getElem?_append_right (by rw[hE.len,Nat.add_mul];omega),hE.len,show (j+1)*E.s+i-E.s=j*E.s+i from by rw[Nat.add_mul];omega];exact ih
theorem a1c (hE:E.Ok)(l:List α):(l.flatMap E.enc).length=l.length*E.s:=by
 induction l with
 |nil=>simp
 |cons d l ih=>rw[List.flatMap_cons,List.length_append,ih,hE.len,List.length_cons,Nat.add_mul];omega
theorem a0b (hE:E.Ok){base:Nat}(h:W.ownsRow base E.t E.s v l.length (l.flatMap E.enc))(hl:l.length≤1000000):Lst E W.heap.size W v l:=by
 rcases h.2 with ⟨rfl,h0⟩|⟨g,cap,cur,rfl,hbase,hgb,hcap,-⟩
 ·obtain rfl:=List.eq_nil_of_length_eq_zero h0
  exact Lst.nil _ _ _
 ·refine⟨_,cap,rfl,hcap,hl,fun j hj=>⟨g,0,rfl,(Array.getElem?_eq_some_iff.1 hgb).1,fun i hi=> ?_⟩⟩
  have hlt:j*E.s+i<l.length*E.s:=by
   have:(j+1)*E.s≤l.length*E.s:=Nat.mul_le_mul_right _ hj;rw[Nat.add_mul] at this;omega
  rw[Nat.zero_add,←b0d hE l j i hj hi];exact h.cellAt _ hlt
end
structure El.In {α:Type}(E:El α)(P:Program)(st:TypeId):Prop where
 under:P.underlying st=some (.slice E.t)
 info:∃i z,P.info? E.t=some i∧i.zero=some z∧i.size=E.s∧i.bytes≤1000∧z.cells.size=E.s
theorem El.in_of {α:Type}{E:El α}{P:Program}{st:TypeId}{s bytes:Nat}{z:Value}(hu:P.underlying st=some (.slice E.t))(h:(P.info? E.t).map (fun i=>(i.zero,i.size,i.bytes))=some (some z,s,bytes))(hs:s=E.s)(hb:bytes≤1000)(hz:z.cells.size=s):E.In P st:=by
 obtain⟨i,hi,h1,h2,h3⟩:=info_parts h;exact⟨hu,i,z,hi,h1,h2.trans hs,by omega,by omega⟩
section
variable {α:Type}{E:El α}{P:Program}{st:TypeId}{w:World}{l:List α}
theorem El.push (hE:E.Ok)(hI:E.In P st){ops:Array Oper}{rest:List Oper}{o:Oper}{a:Act}{Q:Exit→Act→World→Prop}(hgd:o.guard=none)(sO xO:Operand)(ho:o.op= .call { callee:= .builtin .append,args:= #[sO,xO],argTypes:= #[st,st] })
 {base:Nat} {v:Value} (hs:a.eval sO=v) (hrow:w.ownsRow base E.t E.s v l.length (l.flatMap E.enc)) (x:α) {H:Nat} (hx:a.eval xO= .slice (some ⟨H,0,none⟩) 1 1) (hH:w.heap.size=H) (hbase:base≤w.heap.size) (hl:l.length≤100000)
 (h:∀v' w',w'.ownsRow base E.t E.s v' (l++[x]).length ((l++[x]).flatMap E.enc)→(∃a c,v'= .slice a (l.length+1) c)→w.grownBy w' v.ownBlock→Below base w w'→wpList P ops Q rest (a.put o.dst v') w') :
 wpList P ops Q (o::rest) a (w.alloc (.cells (E.enc x).toArray E.t)):=by
 subst hH;obtain⟨i,z,hi,hz,hsz,hby,hzs⟩:=hI.info;have hlen:=hE.len x;refine wpList_append_lies _ hgd sO xO st ho base E.t i z E.s i.bytes hI.under hi hz hsz rfl hzs hE.pos v l.length _ hs (hrow.alloc _) ⟨w.heap.size,0,none⟩ 1 1 (E.enc x) hx (by rw[hlen,Nat.one_mul]) (World.news_of_block (heap_alloc_new _ _)) (hE.one x) (by omega) (by unfold maxLen;omega) (Nat.le_trans (Nat.mul_le_mul (Nat.add_le_add_right hl 1) hby) (by decide)) (by simp;omega) _ rfl ?_;intro g cap w' hown hg hgo hlt;have hg1:w.grownBy w' v.ownBlock:=by
  have h0:=World.grownBy_alloc w (.cells (E.enc x).toArray E.t) none;refine⟨hg.os.trans h0.os,hg.tape.trans h0.tape,hg.output.trans h0.output,Nat.le_trans h0.size hg.size,fun k hk hne=> ?_⟩;exact (hg.block k (by simp;omega) hne).trans (h0.block k hk (by simp))
 refine h _ w' ?_ ⟨_,_,rfl⟩ hg1 ⟨hg1.os,hg1.tape,hg1.output,hg1.size,fun k hk=>hg1.block k (by omega) (fun e=> ?_)⟩
 ·simpa [List.flatMap_append] using hown
 ·have:=(hrow.lt k e.symm).1
  omega
end
end
section
open Go.RowKit
structure Lb where
 id:Int
 x:Int
 y:Int
 r:Int
 txt:ByteArray
 unt:Int
instance:DecidableEq Lb:=fun a b =>
 if h:a.id=b.id∧a.x=b.x∧a.y=b.y∧a.r=b.r∧a.txt=b.txt∧a.unt=b.unt then .isTrue (by cases a;cases b;simp_all) else .isFalse (fun e=>h (by subst e;simp))
abbrev inE:El Int:=⟨3,1,fun n=>[.int .i64 n]⟩
theorem a3i {k:IntKind}{a b:Int}(h:a=b):Ending.returned (.int k a)= .returned (.int k b):=by rw[h]
end
section
open Go.RowKit Go.Maps
structure Ky (α:Type) where
 t:TypeId
 val:α→Value
 kl:α→Lit
 Ok:α→Prop
structure Ky.Law {α:Type}(K:Ky α)(P:Program):Prop where
 law:Keyed P K.t
 key:∀ {p},K.Ok p→keyOf P K.t (K.val p)=some (K.kl p)
 inv:∀ {v l},keyOf P K.t v=some l→∃p,K.Ok p∧v=K.val p∧l=K.kl p
 vinj:∀ {p q},K.val p=K.val q→p=q
section
variable {α:Type}{K:Ky α}{P:Program}
theorem Ky.Law.inj (L:K.Law P){p q:α}(hp:K.Ok p)(hq:K.Ok q)(h:K.kl p=K.kl q):p=q:=by
 have h1:=L.key hp;rw[h] at h1;exact L.vinj (L.law.inj h1 (L.key hq))
theorem Ky.Law.lit (L:K.Law P){p:α}(hp:K.Ok p):WideAt.IsKeyLit (K.kl p):=L.law.key (L.key hp)
variable [DecidableEq α]{β:Type}
def idG (l:List (α×β))(p:α):Option β:=(l.find? fun e=>decide (e.1=p)).map (·.2)
def b9x (l:List (α×β))(p:α):Bool:=l.any fun e=>decide (e.1=p)
def c3e (l:List (α×β))(p:α)(x:β):List (α×β):=if b9x l p then l.map (fun e=>if e.1=p then (p,x) else e) else l++[(p,x)]
theorem a9u {l:List (α×β)}{p:α}:b9x l p=true↔p∈l.map (·.1):=by
 unfold b9x;rw[List.any_eq_true];constructor
 ·rintro⟨e,he,h⟩
  exact List.mem_map.2 ⟨e,he,by simpa using h⟩
 ·intro h
  obtain⟨e,he,h⟩:=List.mem_map.1 h;exact⟨e,he,by simpa using h⟩
theorem b0e (l:List (α×β))(p:α)(x:β):(c3e l p x).map (·.1)=if b9x l p then l.map (·.1) else l.map (·.1)++[p]:=by
 unfold c3e;split
 ·rw[List.map_map]
  refine List.map_congr_left fun e _=> ?_
  by_cases h:e.1=p
  ·simp[h]
  ·simp[h]
 ·simp
theorem c6z (l:List (α×β))(p q:α)(x:β):b9x (c3e l p x) q=(decide (q=p)||b9x l q):=by
 rw[Bool.eq_iff_iff,a9u,b0e,Bool.or_eq_true,decide_eq_true_iff];rw[show (b9x l q=true)=(q∈l.map (·.1)) from propext a9u];split
 ·rename_i h
  have:=a9u.1 h;constructor
  ·exact .inr
  ·rintro (rfl|h')
   ·exact this
   ·exact h'
 ·simp[or_comm]
theorem c3f (p q:α)(x:β)(hq:¬q=p):∀l:List (α×β),idG (l.map fun e=>if e.1=p then (p,x) else e) q=idG l q
 |[]=>rfl
 |a::l=>by
  have ih:=c3f p q x hq l;have hne:¬p=q:=fun h=>hq h.symm
  unfold idG at ih ⊢;by_cases ha:a.1=p
  ·simpa [ha,hne] using ih
  ·by_cases haq:a.1=q
   ·have hf:List.find? (fun e=>decide (e.1=q)) (List.map (fun e=>if e.1=p then (p,x) else e) (a::l))=some a:=by rw[List.map_cons,if_neg ha,List.find?_cons];simp[haq]
    rw[hf];simp[haq]
   ·rw[List.map_cons,if_neg ha,List.find?_cons,List.find?_cons]
    simp only[haq,decide_false];exact ih
theorem a8y (p:α)(x:β):∀l:List (α×β),b9x l p=true→idG (l.map fun e=>if e.1=p then (p,x) else e) p=some x
 |[],h=>by simp[b9x] at h
 |a::l,h=>by
  by_cases ha:a.1=p
  ·simp[idG,ha]
  ·have ih:=a8y p x l (by simpa [b9x,ha] using h)
   unfold idG at ih ⊢;simpa [ha] using ih
theorem c3g (l:List (α×β))(p q:α)(x:β):idG (c3e l p x) q=if q=p then some x else idG l q:=by
 unfold c3e;split
 ·rename_i h
  by_cases hq:q=p
  ·subst hq
   rw[if_pos rfl];exact a8y q x l h
  ·rw[if_neg hq]
   exact c3f p q x hq l
 ·rename_i h
  unfold idG;rw[List.find?_append];by_cases hq:q=p
  ·subst hq
   have:l.find? (fun e=>decide (e.1=q))=none:=by
    rw[List.find?_eq_none];intro e he hh;exact h (by unfold b9x;exact List.any_eq_true.2 ⟨e,he,hh⟩)
   simp[this]
  ·have h1:¬p=q:=fun e=>hq e.symm
   simp[h1,hq]
theorem b8a (l:List (α×β))(p:α)(x:β):(c3e l p x).length=if b9x l p then l.length else l.length+1:=by
 unfold c3e;split <;> simp
structure Ve (β:Type) where
 t:TypeId
 lit:β→Lit
 z:β
def MapK (P:Program)(K:Ky α)(V:Ve β)(W:World)(b n:Nat)(l:List (α×β)):Prop :=
 ∃(D:DataW Unit),W.ownsMap P K.t (plainElem P V.t) b n D∧(l.map (·.1)).Nodup∧(∀e∈l,K.Ok e.1)∧Maps.size D=l.length ∧
  ∀p,K.Ok p→has D (K.kl p)=b9x l p∧D.atKey (K.kl p) (.lit (V.lit V.z))= .lit (V.lit ((idG l p).getD V.z))
variable {V:Ve β}{W W':World}{b n:Nat}{l:List (α×β)}
theorem MapK.kept {row:Option Nat}(h:MapK P K V W b n l)(hg:W.grownBy W' row)(hr:row≠some b):MapK P K V W' b n l:=by
 obtain⟨D,ho,h1,h2,h3⟩:=h;exact⟨D,ho.kept hg (fun e=>hr e.symm),h1,h2,h3⟩
theorem MapK.lt (h:MapK P K V W b n l):b<W.heap.size:=by
 obtain⟨D,ho,-⟩:=h;exact ho.lt
theorem MapK.alloc (h:MapK P K V W b n l)(o:Obj):MapK P K V (W.alloc o) b n l:=h.kept (World.grownBy_alloc W o none) (by simp)
theorem MapK.below {n₀:Nat}(h:MapK P K V W b n l)(hb:Below n₀ W W')(hB:b<n₀):MapK P K V W' b n l:=by
 obtain⟨D,⟨es,clock,he,r⟩,h1,h2,h3⟩:=h;exact⟨D,⟨es,clock,(hb.block b hB).trans he,r⟩,h1,h2,h3⟩
theorem MapK.made (P:Program)(K:Ky α)(V:Ve β)(W:World):MapK P K V (W.alloc (.map #[] 0)) W.heap.size 0 [] :=
 ⟨.map [],World.ownsMap_made W _ _ _,by simp,by simp,rfl,fun p _=>⟨rfl,rfl⟩⟩
theorem MapK.store (L:K.Law P){D:DataW Unit}{p:α}{x:β}(hD:Tidy D)(h1:(l.map (·.1)).Nodup)(h2:∀e∈l,K.Ok e.1)(h4:Maps.size D=l.length)
 (h3:∀p,K.Ok p→has D (K.kl p)=b9x l p∧D.atKey (K.kl p) (.lit (V.lit V.z))= .lit (V.lit ((idG l p).getD V.z))) (hp:K.Ok p)
 (ho:W'.ownsMap P K.t (plainElem P V.t) b n (D.put (K.kl p) (.lit (V.lit x)))):MapK P K V W' b n (c3e l p x):=by
 refine⟨_,ho,?_,?_,?_,fun q hq=> ?_⟩
 ·rw[b0e]
  split
  ·exact h1
  ·rename_i h
   rw[List.nodup_append];refine⟨h1,by simp,fun a ha c hc=> ?_⟩;obtain rfl:c=p:=by simpa using hc
   exact fun e=>h (a9u.2 (e▸ha))
 ·intro e he
  have:e.1∈(c3e l p x).map (·.1):=List.mem_map.2 ⟨e,he,rfl⟩;rw[b0e] at this;split at this
  ·obtain⟨e',he',h⟩:=List.mem_map.1 this
   rw[←h];exact h2 e' he'
  ·rcases List.mem_append.1 this with h|h
   ·obtain⟨e',he',h⟩:=List.mem_map.1 h
    rw[←h];exact h2 e' he'
   ·rw[show e.1=p by simpa using h];exact hp
 ·rw[size_put hD,(h3 p hp).1,b8a,h4]
 ·have hk:=L.lit hp
  rw[c6z,c3g];by_cases hqp:q=p
  ·subst hqp
   simp[has_put_same hD.isMap hk,atKey_put_same hD.isMap hk]
  ·have hne:K.kl q≠K.kl p:=fun e=>hqp (L.inj hq hp e)
   simp[has_put_other hne,atKey_put_other hne,hqp,h3 q hq]
end
end
section
open Go.RowKit Go.Shelf Go.Lib
attribute [local go_sem] Oper.semAt_some
attribute [local go_sem ↓] Go.wp_at_zero Go.wp_at_succ
structure Pc where
 id:Int
 x:Int
 y:Int
 cls:ByteArray
 nm:ByteArray
 wt:Int
 ds:Int
instance:Inhabited Pc:=⟨⟨0,0,0,⟨#[]⟩,⟨#[]⟩,0,0⟩⟩
abbrev plV (p:Pc):Value:= .agg #[.int .i64 p.id,.int .i64 p.x,.int .i64 p.y,.string p.cls,.string p.nm,.int .i64 p.wt,.int .i64 p.ds]
abbrev plE:El Pc:=⟨66,7,fun p=>[.int .i64 p.id,.int .i64 p.x,.int .i64 p.y,.string p.cls,.string p.nm,.int .i64 p.wt,.int .i64 p.ds]⟩
theorem a2l:plE.Ok:=⟨fun _=>rfl,by decide,fun x u hu=>by
 simp at hu;rcases hu with rfl|rfl|rfl|rfl|rfl|rfl|rfl <;> rfl⟩
theorem d2f:plE.In prog 35:=El.in_of (z:= .agg #[.int .i64 0,.int .i64 0,.int .i64 0,.string ⟨#[]⟩,.string ⟨#[]⟩,.int .i64 0,.int .i64 0]) (s:=7) (bytes:=72) underlying35 (by kernel_rfl) rfl (by omega) rfl
structure PcOk (p:Pc):Prop where
 id:a0k p.id
 x:a0k p.x
 y:a0k p.y
 wt:a0k p.wt
 nm:p.nm.size≤1000
def Frm (v:Value)(n:Nat):Prop:=v= .slice none 0 0∨∃b off cap,v= .slice (some ⟨b,off,none⟩) n cap
theorem Lst.flat {α:Type}{E:El α}{n₀:Nat}{W:World}{l:List α}{b off cap:Nat}(hE:E.Ok)(h:Lst E n₀ W (.slice (some ⟨b,off,none⟩) l.length cap) l):∀j u,(l.flatMap E.enc)[j]? =some u→W.cell? ⟨b,off+j,none⟩=some u:=by
 intro j u hj;have hlt:=(List.getElem?_eq_some_iff.1 hj).1;rw[a1c hE] at hlt;have hs:=hE.pos;have hq:j / E.s<l.length:=(Nat.div_lt_iff_lt_mul hs).2 hlt;have hr:j % E.s<E.s:=Nat.mod_lt _ hs;obtain⟨b',off',cap',e,-,-,hc⟩:=h.some_ (Nat.lt_of_le_of_lt (Nat.zero_le _) hq);simp only[Value.slice.injEq,Option.some.injEq,Addr.mk.injEq] at e;obtain⟨⟨rfl,rfl,-⟩,-,-⟩:=e;have h1:=hc _ hq _ hr;have h2:=b0d hE l (j / E.s) (j % E.s) hq hr;have e1:j / E.s*E.s+j % E.s=j:=by rw[Nat.mul_comm];exact Nat.div_add_mod j E.s
 rw[Nat.add_assoc,e1,←h2,e1,hj] at h1;exact h1
theorem a4x {α:Type}{E:El α}(hE:E.Ok)(l:List α):∀u∈l.flatMap E.enc,u.oneCell'=true:=by
 intro u hu;obtain⟨x,-,h⟩:=List.mem_flatMap.1 hu;exact hE.one x u h
theorem b8b (v:Value)(l:List Pc)(w:World)(h:Lst plE w.heap.size w v l)(hf:Frm v l.length)(hl:l.length≤100000) :
 Calls prog 101 #[v] w fun e w'=>∃u,e= .returned u∧w'.ownsRow w.heap.size 66 7 u l.length (l.flatMap plE.enc)∧Below w.heap.size w w':=by
 rcases hf with rfl|⟨b,off,cap,rfl⟩
 ·obtain⟨a,cap,e,-⟩:=h.form
  simp only[Value.slice.injEq] at e;obtain⟨-,e,-⟩:=e;obtain rfl:=List.eq_nil_of_length_eq_zero e.symm;refine (AnyE.slices_Clone_nil Tryz.clonePl 0 0 w).mono ?_;rintro e w'⟨rfl,rfl⟩;exact⟨_,rfl,⟨by simp,.inl ⟨rfl,rfl⟩⟩,zR _ _⟩
 ·obtain⟨i0,hi0,hz0,hz1,hz2⟩:=info_parts (P:=prog) (e:=66) (z:= .agg #[.int .i64 0,.int .i64 0,.int .i64 0,.string ⟨#[]⟩,.string ⟨#[]⟩,.int .i64 0,.int .i64 0]) (size:=7) (bytes:=72) (by kernel_rfl)
  refine (AnyE.slices_Clone Tryz.clonePl i0 _ 7 72 hi0 hz0 hz1 hz2 (by rfl) (by omega) sizeOf66 b off l.length cap (l.flatMap plE.enc) w (a1c a2l l) (by unfold maxLen;omega) (by omega) (h.flat a2l) (a4x a2l l)).mono ?_;rintro e w'⟨u,rfl,hr,-,hb⟩;exact⟨u,rfl,hr,hb⟩
theorem c3h (x y r:Int)(hr:(if x=0 then y else x)=r)(b:Nat)(w:World)(h0:w.cell? ⟨b,0,none⟩=some (.int .i64 x))(h1:w.cell? ⟨b,1,none⟩=some (.int .i64 y)) :
 Calls prog 104 #[.slice (some ⟨b,0,none⟩) 2 2] w fun e w'=>e= .returned (.int .i64 r)∧w=w':=by
 by_cases hx:x=0
 ·subst hx
  rw[if_pos rfl] at hr;subst hr;by_cases hy:y=0
  ·subst hy
   go_enter func104,ntmps104;go_wp2_with fail;refine wp_loop_rounds 3 ?_;rw[rounds_succ];go_wp2_with fail;rw[rounds_succ];go_wp2_with fail;rw[rounds_succ];go_wp2_with fail;go_ret;exact⟨rfl,rfl⟩
  ·go_enter func104,ntmps104
   go_wp2_with fail;refine wp_loop_rounds 2 ?_;rw[rounds_succ];go_wp2_with fail;rw[rounds_succ];go_wp2_with fail;go_ret;exact⟨rfl,rfl⟩
 ·rw[if_neg hx] at hr
  subst hr;go_enter func104,ntmps104;go_wp2_with fail;refine wp_loop_rounds 1 ?_;rw[rounds_succ];go_wp2_with fail;go_ret;exact⟨rfl,rfl⟩
def a1z (a b:Pc):Int:=if compareInt b.wt a.wt=0 then compareInt a.id b.id else compareInt b.wt a.wt
theorem b2l (x y r:Int)(hr:compareInt x y=r)(w:World):Calls prog 105 #[.int .i64 x,.int .i64 y] w fun e w'=>e= .returned (.int .i64 r)∧w=w' :=
 (Go.Proofs.Tryz.cmp_Compare_int x y w).mono fun _ _ ⟨he,hw⟩=>⟨by rw[he,hr],hw.symm⟩
theorem a5m (a b:Pc)(w:World):Calls prog 103 #[plV a,plV b] w fun e w'=>e= .returned (.int .i64 (a1z a b))∧Below w.heap.size w w':=by
 obtain⟨i,x,y,c,n,wt,d⟩:=a;obtain⟨i2,x2,y2,c2,n2,wt2,d2⟩:=b;obtain⟨r,hr⟩:∃r,a1z ⟨i,x,y,c,n,wt,d⟩ ⟨i2,x2,y2,c2,n2,wt2,d2⟩=r:=⟨_,rfl⟩;rw[hr];unfold a1z at hr;simp only at hr;obtain⟨s1,h1⟩:∃s,compareInt wt2 wt=s:=⟨_,rfl⟩;obtain⟨s2,h2⟩:∃s,compareInt i i2=s:=⟨_,rfl⟩;rw[h1,h2] at hr;replace h1:=Lib.hid h1;replace h2:=Lib.hid h2;replace hr:=Lib.hid hr;go_enter func103,ntmps103;go_wp2_with fail;first|with_reducible refine a0c 10 (by kernel_rfl) (by kernel_rfl) ?_|with_reducible refine a0d 10 (by kernel_rfl) (by kernel_rfl) ?_
 simp only[List.take_succ_cons,List.take_zero,List.drop_succ_cons,List.drop_zero];repeat (first|go_big_quiet_step ((go_at_call 105;exact Calls.grow_of_same (b2l _ _ _ (by first|with_reducible exact h1.out|with_reducible exact h2.out) _)))|quiet_step ((go_at_call 105;exact Calls.grow_of_same (b2l _ _ _ (by first|with_reducible exact h1.out|with_reducible exact h2.out) _))))
 refine wpQuiet_nil ?_;intro _ hw_;obtain⟨p,hw_⟩:=hw_;subst hw_;go_wp2_with (go_at_call 104;refine (c3h _ _ _ hr.out _ _ (by first|(simp;done)|(go_simp;done)|(simp[go_sem];done)) (by first|(simp;done)|(go_simp;done)|(simp[go_sem];done))).mono ?_;rintro e w'⟨rfl,rfl⟩);go_ret;exact⟨rfl,zC⟩
end
section
open Go Go.RowKit
structure KeepC (C:World→Nat→Prop)(A B:World):Prop where
 size:A.heap.size≤B.heap.size
 same:∀k,k<A.heap.size→¬C A k→B.heap[k]? =A.heap[k]?
 mine:∀k,C B k→C A k∨A.heap.size≤k
end
section
open Go.RowKit Go.Shelf Go.Maps
theorem b5r {W W':World}{b o:Nat}(h:W'.heap[b]? =W.heap[b]?):W'.cell? ⟨b,o,none⟩=W.cell? ⟨b,o,none⟩:=by
 unfold World.cell?;rw[h]
section
theorem a0h (W:World)(b i:Nat)(v:Value):W.grownBy (W.setCell ⟨b,i,none⟩ v) (some b) :=
 ⟨rfl,rfl,rfl,by unfold World.setCell;simp,fun k _ hk=>Below.heap_setCell _ _ _ k (fun e=>hk (by rw[e]))⟩
end
end
section
open Go.RowKit Go.Shelf Go.Lib Go.Sort
attribute [local go_sem] Oper.semAt_some
attribute [local go_sem ↓] Go.wp_at_zero Go.wp_at_succ
structure PlC (W:World)(b o:Nat)(p:Pc):Prop where
 c0:W.cell? ⟨b,o,none⟩=some (.int .i64 p.id)
 c1:W.cell? ⟨b,o+1,none⟩=some (.int .i64 p.x)
 c2:W.cell? ⟨b,o+2,none⟩=some (.int .i64 p.y)
 c3:W.cell? ⟨b,o+3,none⟩=some (.string p.cls)
 c4:W.cell? ⟨b,o+4,none⟩=some (.string p.nm)
 c5:W.cell? ⟨b,o+5,none⟩=some (.int .i64 p.wt)
 c6:W.cell? ⟨b,o+6,none⟩=some (.int .i64 p.ds)
structure PlF (W:World)(b o:Nat):Prop where
 f0:W.frozen? ⟨b,o,none⟩=false
 f1:W.frozen? ⟨b,o+1,none⟩=false
 f2:W.frozen? ⟨b,o+2,none⟩=false
 f3:W.frozen? ⟨b,o+3,none⟩=false
 f4:W.frozen? ⟨b,o+4,none⟩=false
 f5:W.frozen? ⟨b,o+5,none⟩=false
 f6:W.frozen? ⟨b,o+6,none⟩=false
abbrev RowP (W:World)(blk off:Nat)(d:Array Pc):Prop:=HoldsK plE.enc 7 W blk off d
theorem RowP.pc {W:World}{blk off:Nat}{d:Array Pc}(h:RowP W blk off d){j:Nat}(hj:j<d.size):PlC W blk (off+j*7) d[j]! :=
 ⟨(HoldsK.cell h hj (c:=0) (by omega)).1,(HoldsK.cell h hj (c:=1) (by omega)).1,(HoldsK.cell h hj (c:=2) (by omega)).1,(HoldsK.cell h hj (c:=3) (by omega)).1,(HoldsK.cell h hj (c:=4) (by omega)).1,(HoldsK.cell h hj (c:=5) (by omega)).1,(HoldsK.cell h hj (c:=6) (by omega)).1⟩
theorem RowP.pf {W:World}{blk off:Nat}{d:Array Pc}(h:RowP W blk off d){j:Nat}(hj:j<d.size):PlF W blk (off+j*7) :=
 ⟨(HoldsK.cell h hj (c:=0) (by omega)).2,(HoldsK.cell h hj (c:=1) (by omega)).2,(HoldsK.cell h hj (c:=2) (by omega)).2,(HoldsK.cell h hj (c:=3) (by omega)).2,(HoldsK.cell h hj (c:=4) (by omega)).2,(HoldsK.cell h hj (c:=5) (by omega)).2,(HoldsK.cell h hj (c:=6) (by omega)).2⟩
theorem b0f {W W':World}{b:Nat}(h:W'.heap[b]? =W.heap[b]?)(i:Nat):W'.frozen? ⟨b,i,none⟩=W.frozen? ⟨b,i,none⟩:=by
 unfold World.frozen?;simp only[h]
theorem RowP.same {W W':World}{blk off:Nat}{d:Array Pc}(h:RowP W blk off d)(hs:W'.heap[blk]? =W.heap[blk]?):RowP W' blk off d:=fun j hj =>
 ⟨(b5r hs).trans (h j hj).1,(b0f hs _).trans (h j hj).2⟩
def c7a (W:World)(blk off j:Nat)(d:Array Pc):World:=(W.setCells blk (off+(j+1)*7) (plE.enc d[j]!)).setCells blk (off+j*7) (plE.enc d[j+1]!)
theorem c7b {W:World}{blk off j:Nat}{d:Array Pc}(h:RowP W blk off d)(hj:j+1<d.size):RowP (c7a W blk off j d) blk off (swp d (j+1) j):=by
 have b:∀x,x<d.size→x*7+7≤d.size*7:=fun x hx=>by omega
 have h1:=holds_setCells_c h ((j+1)*7) (plE.enc d[j]!) (by rw[size_flatK];exact b (j+1) hj);have h2:=holds_setCells_c h1 (j*7) (plE.enc d[j+1]!) (by rw[size_setMany,size_flatK];exact b j (by omega));unfold RowP HoldsK;rw[←setMany_swp plE.enc 7 (fun _=>rfl) d (j+1) j hj (by omega)];exact h2
theorem a1w (blk:Nat):∀(vs:List Value)(o:Nat)(W:World),W.grownBy (W.setCells blk o vs) (some blk)
 |[],o,W=>⟨rfl,rfl,rfl,yR _,fun _ _ _=>rfl⟩
 |v::vs,o,W=>by
  have h1:=a0h W blk o v;have h2:=a1w blk vs (o+1) (W.setCell ⟨blk,o,none⟩ v);exact⟨h2.os.trans h1.os,h2.tape.trans h1.tape,h2.output.trans h1.output,Nat.le_trans h1.size h2.size,fun k hk hn=>(h2.block k (Nat.lt_of_lt_of_le hk h1.size) hn).trans (h1.block k hk hn)⟩
theorem a2g {W W1 W2:World}{b:Nat}(h1:W.grownBy W1 (some b))(h2:W1.grownBy W2 (some b)):W.grownBy W2 (some b) :=
 ⟨h2.os.trans h1.os,h2.tape.trans h1.tape,h2.output.trans h1.output,Nat.le_trans h1.size h2.size,fun k hk hn=>(h2.block k (Nat.lt_of_lt_of_le hk h1.size) hn).trans (h1.block k hk hn)⟩
theorem a2h {W W1:World}(b:Option Nat)(h:Below W.heap.size W W1):W.grownBy W1 b:=⟨h.os,h.tape,h.output,h.size,fun k hk _=>h.block k hk⟩
def RowB (W:World)(blk N:Nat):Prop:=∃cur,Blk W blk cur 66∧cur.size=N
theorem RowB.same {W W':World}{blk N:Nat}(h:RowB W blk N)(hs:W'.heap[blk]? =W.heap[blk]?):RowB W' blk N:=by
 obtain⟨cur,h1,h2⟩:=h;exact⟨cur,hs.trans h1,h2⟩
theorem RowB.setCells {blk N:Nat}:∀(vs:List Value)(o:Nat)(W:World),RowB W blk N→RowB (W.setCells blk o vs) blk N
 |[],_,_,h=>h
 |v::vs,o,W,⟨cur,h1,h2⟩=>RowB.setCells vs (o+1) _ ⟨_,h1.set o v,by simpa using h2⟩
theorem RowB.lt {W:World}{blk N:Nat}(h:RowB W blk N):blk<W.heap.size:=h.choose_spec.1.lt
structure SoW (w:World)(blk off N:Nat)(n:Nat)(d:Array Pc)(W:World):Prop where
 row:RowP W blk off d
 rb:RowB W blk N
 gr:w.grownBy W (some blk)
 sz:d.size=n
theorem SoW.below {w:World}{blk off N n:Nat}{d:Array Pc}{W W':World}(h:SoW w blk off N n d W)(hb:Below W.heap.size W W'):SoW w blk off N n d W' :=
 have e:=hb.block blk h.rb.lt
 ⟨h.row.same e,h.rb.same e,a2g h.gr (a2h _ hb),h.sz⟩
theorem SoW.drew {w:World}{blk off N n:Nat}{d:Array Pc}{W:World}(h:SoW w blk off N n d W):SoW w blk off N n d W.drew:=h.below ⟨rfl,rfl,rfl,yR _,fun _ _=>rfl⟩
theorem SoW.swap {w:World}{blk off N n j:Nat}{d:Array Pc}{W:World}(h:SoW w blk off N n d W)(hj:j+1<n):SoW w blk off N n (swp d (j+1) j) (c7a W blk off j d) :=
 ⟨c7b h.row (by rw[h.sz];exact hj),RowB.setCells _ _ _ (RowB.setCells _ _ _ h.rb),a2g h.gr (a2g (a1w _ _ _ _) (a1w _ _ _ _)),by rw[size_swp];exact h.sz⟩
theorem a7i (W:World)(blk o1 o2:Nat)(i1 x1 y1 w1 d1 i2 x2 y2 w2 d2:Int)(c1 n1 c2 n2:ByteArray) :
 (W.setCells blk o1 (plE.enc ⟨i2,x2,y2,c2,n2,w2,d2⟩)).setCells blk o2 (plE.enc ⟨i1,x1,y1,c1,n1,w1,d1⟩)=((((((((((((((W.setCell ⟨blk,o1,none⟩ (.int .i64 i2)).setCell ⟨blk,o1+1,none⟩ (.int .i64 x2)).setCell ⟨blk,o1+2,none⟩ (.int .i64 y2)).setCell ⟨blk,o1+3,none⟩ (.string c2)).setCell ⟨blk,o1+4,none⟩ (.string n2)).setCell ⟨blk,o1+5,none⟩ (.int .i64 w2)).setCell ⟨blk,o1+6,none⟩ (.int .i64 d2)).setCell ⟨blk,o2,none⟩ (.int .i64 i1)).setCell ⟨blk,o2+1,none⟩ (.int .i64 x1)).setCell ⟨blk,o2+2,none⟩ (.int .i64 y1)).setCell ⟨blk,o2+3,none⟩ (.string c1)).setCell ⟨blk,o2+4,none⟩ (.string n1)).setCell ⟨blk,o2+5,none⟩ (.int .i64 w1)).setCell ⟨blk,o2+6,none⟩ (.int .i64 d1)):=by
 simp only[World.setCells,Nat.add_assoc,Nat.reduceAdd]
theorem c7c (a b:Pc):(ltOf a1z a b=true↔a1z a b<0):=by unfold ltOf;simp
end
end Go.Proofs.YtfocdbjceedagaaGreatDoor
