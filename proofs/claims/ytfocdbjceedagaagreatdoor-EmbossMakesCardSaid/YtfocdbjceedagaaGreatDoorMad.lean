/-
  Parts.
-/
import Derived.Test.YtfocdbjceedagaaGreatDoorMab
import Derived.Test.YtfocdbjceedagaaGreatDoorMae
import Derived.Shelf.AbstractIn
import Derived.Shelf.SlSortCmp.QuietGrown
set_option linter.unusedVariables false
set_option linter.unusedSimpArgs false
set_option maxHeartbeats 4000000
set_option maxRecDepth 100000
namespace Go.Proofs.YtfocdbjceedagaaGreatDoor
open Tryz
section
open Go.RowKit Go.Shelf Go.Lib
attribute [local go_sem] Oper.semAt_some
attribute [local go_sem ↓] Go.wp_at_zero Go.wp_at_succ
theorem c7v (x y r:Int)(hr:(if x=0 then y else x)=r)(b:Nat)(w:World)(h0:w.cell? ⟨b,0,none⟩=some (.int .i64 x))(h1:w.cell? ⟨b,1,none⟩=some (.int .i64 y)) :
 Calls prog 104 #[.slice (some ⟨b,0,none⟩) 2 2] w λe w'=>e= .returned (.int .i64 r)/\w=w':=by
 by_cases hx:x=0
 ·subst hx
  rw[if_pos rfl]at hr;subst hr;by_cases hy:y=0
  ·subst hy
   go_enter func104,ntmps104;go_wp2_with fail;refine wp_loop_rounds 3 ?_;rw[rounds_succ];go_wp2_with fail;rw[rounds_succ];go_wp2_with fail;rw[rounds_succ];exact yaw
  ·go_enter func104,ntmps104
   go_wp2_with fail;refine wp_loop_rounds 2 ?_;rw[rounds_succ];go_wp2_with fail;rw[rounds_succ];exact yaw
 ·rw[if_neg hx]at hr
  subst hr;go_enter func104,ntmps104;exact ygs
def a1j (a b:Pc):Int:=if compareInt b.wt a.wt=0 then compareInt a.id b.id else compareInt b.wt a.wt
theorem b3y (x y r:Int)(hr:compareInt x y=r)(w:World):Calls prog 105 #[.int .i64 x,.int .i64 y] w λe w'=>e= .returned (.int .i64 r)/\w=w' :=
 (Go.Proofs.Tryz.cmp_Compare_int x y w).mono λ_ _ ⟨he,hw⟩=>⟨by rw[he,hr],hw.symm⟩
theorem a5z (a b:Pc)(w:World):Calls prog 103 #[plV a,plV b] w λe w'=>e= .returned (.int .i64 (a1j a b))/\Below w.heap.size w w':=by
 obtain⟨i,x,y,c,n,wt,d⟩:=a;obtain⟨i2,x2,y2,c2,n2,wt2,d2⟩:=b;obtain⟨r,hr⟩:=zE (a1j ⟨i,x,y,c,n,wt,d⟩ ⟨i2,x2,y2,c2,n2,wt2,d2⟩);rw[hr];unfold a1j at hr;simp only at hr;obtain⟨s1,h1⟩:=zE (compareInt wt2 wt);obtain⟨s2,h2⟩:=zE (compareInt i i2);rw[h1,h2]at hr;replace h1:=Lib.hid h1;replace h2:=Lib.hid h2;replace hr:=Lib.hid hr;go_enter func103,ntmps103;go_wp2_with fail;first|with_reducible refine a0f 10 zM zM ?_|with_reducible refine a0i 10 zM zM ?_
 simp only[zT];repeat(first|go_big_quiet_step ((go_at_call 105;exact Calls.grow_of_same (b3y _ _ _ (by first|with_reducible exact h1.out|with_reducible exact h2.out) _)))|quiet_step ((go_at_call 105;exact Calls.grow_of_same (b3y _ _ _ (by first|with_reducible exact h1.out|with_reducible exact h2.out) _))))
 refine wpQuiet_nil ?_;intro _ hw_;obtain⟨p,hw_⟩:=hw_;subst hw_;go_wp2_with (go_at_call 104;refine(c7v _ _ _ hr.out _ _ (by first|(simp;done)|(go_simp;done)|(simp[go_sem];done)) (by first|(simp;done)|(go_simp;done)|(simp[go_sem];done))).mono ?_;rintro e w'⟨rfl,rfl⟩);exact ybl
end
section
open Go.RowKit Go.Shelf Go.Maps
theorem b7t {W W':World}{b o:Nat}(h:W'.heap[b]? =W.heap[b]?):W'.cell? ⟨b,o,none⟩=W.cell? ⟨b,o,none⟩:=by
 unfold World.cell?;rw[h]
section
theorem a0u (W:World)(b i:Nat)(v:Value):W.grownBy (W.setCell ⟨b,i,none⟩ v) (some b) :=
 ⟨rfl,rfl,rfl,by unfold World.setCell;simp,λk _ hk=>Below.heap_setCell _ _ _ k (λe=>hk (by rw[e]))⟩
end
end
section
open Go.RowKit Go.Shelf Go.Lib Go.Sort
attribute [local go_sem] Oper.semAt_some
attribute [local go_sem ↓] Go.wp_at_zero Go.wp_at_succ
variable{N b blk j n off:Nat}{W W' W1 w:World}
structure PlC (W:World)(b o:Nat)(p:Pc):Prop where
 c0:W.cell? ⟨b,o,none⟩=some (.int .i64 p.id)
 c1:W.cell? ⟨b,o+1,none⟩=some (.int .i64 p.x)
 c2:W.cell? ⟨b,o+2,none⟩=some (.int .i64 p.y)
 c3:W.cell? ⟨b,o+3,none⟩=some (.string p.cls)
 c4:W.cell? ⟨b,o+4,none⟩=some (.string p.nm)
 c5:W.cell? ⟨b,o+5,none⟩=some (.int .i64 p.wt)
 c6:W.cell? ⟨b,o+6,none⟩=some (.int .i64 p.ds)
structure PlF (W:World)(b o:Nat):Prop where
 f0:W.frozen? ⟨b,o,none⟩=false
 f1:W.frozen? ⟨b,o+1,none⟩=false
 f2:W.frozen? ⟨b,o+2,none⟩=false
 f3:W.frozen? ⟨b,o+3,none⟩=false
 f4:W.frozen? ⟨b,o+4,none⟩=false
 f5:W.frozen? ⟨b,o+5,none⟩=false
 f6:W.frozen? ⟨b,o+6,none⟩=false
abbrev RowP (W:World)(blk off:Nat)(d:Array Pc):Prop:=HoldsK plE.enc 7 W blk off d
theorem RowP.pc {d:Array Pc}(h:RowP W blk off d)(hj:j<d.size):PlC W blk (off+j*7) d[j]! :=
 ⟨(HoldsK.cell h hj (c:=0) oM).1,(HoldsK.cell h hj (c:=1) oM).1,(HoldsK.cell h hj (c:=2) oM).1,(HoldsK.cell h hj (c:=3) oM).1,(HoldsK.cell h hj (c:=4) oM).1,(HoldsK.cell h hj (c:=5) oM).1,(HoldsK.cell h hj (c:=6) oM).1⟩
theorem RowP.pf {d:Array Pc}(h:RowP W blk off d)(hj:j<d.size):PlF W blk (off+j*7) :=
 ⟨(HoldsK.cell h hj (c:=0) oM).2,(HoldsK.cell h hj (c:=1) oM).2,(HoldsK.cell h hj (c:=2) oM).2,(HoldsK.cell h hj (c:=3) oM).2,(HoldsK.cell h hj (c:=4) oM).2,(HoldsK.cell h hj (c:=5) oM).2,(HoldsK.cell h hj (c:=6) oM).2⟩
theorem b1n (h:W'.heap[b]? =W.heap[b]?)(i:Nat):W'.frozen? ⟨b,i,none⟩=W.frozen? ⟨b,i,none⟩:=by
 unfold World.frozen?;simp only[h]
theorem RowP.same {d:Array Pc}(h:RowP W blk off d)(hs:W'.heap[blk]? =W.heap[blk]?):RowP W' blk off d:=λj hj =>
 ⟨(b7t hs).trans (h j hj).1,(b1n hs _).trans (h j hj).2⟩
def d5o (W:World)(blk off j:Nat)(d:Array Pc):World:=(W.setCells blk (off+(j+1)*7) (plE.enc d[j]!)).setCells blk (off+j*7) (plE.enc d[j+1]!)
theorem d1n {d:Array Pc}(h:RowP W blk off d)(hj:j+1<d.size):RowP (d5o W blk off j d) blk off (swp d (j+1) j):=by
 have b:∀x,x<d.size->x*7+7<=d.size*7:=λx hx=>by omega
 have h1:=holds_setCells_c h ((j+1)*7) (plE.enc d[j]!) (by rw[size_flatK];exact b (j+1) hj);have h2:=holds_setCells_c h1 (j*7) (plE.enc d[j+1]!) (by rw[size_setMany,size_flatK];exact b j oM);unfold RowP HoldsK;rw[<-setMany_swp plE.enc 7 (λ_=>rfl) d (j+1) j hj oM];exact h2
theorem a1u (blk:Nat):∀(vs:List Value) (o:Nat) (W:World),W.grownBy (W.setCells blk o vs) (some blk)
 |[],o,W=>⟨rfl,rfl,rfl,yR _,λ_ _ _=>rfl⟩
 |v::vs,o,W=>by
  have h1:=a0u W blk o v;have h2:=a1u blk vs (o+1) (W.setCell ⟨blk,o,none⟩ v);exact⟨h2.os.trans h1.os,h2.tape.trans h1.tape,h2.output.trans h1.output,Nat.le_trans h1.size h2.size,λk hk hn=>(h2.block k (Nat.lt_of_lt_of_le hk h1.size) hn).trans (h1.block k hk hn)⟩
theorem a2e {W2:World}(h1:W.grownBy W1 (some b))(h2:W1.grownBy W2 (some b)):W.grownBy W2 (some b) :=
 ⟨h2.os.trans h1.os,h2.tape.trans h1.tape,h2.output.trans h1.output,Nat.le_trans h1.size h2.size,λk hk hn=>(h2.block k (Nat.lt_of_lt_of_le hk h1.size) hn).trans (h1.block k hk hn)⟩
theorem a2f (b:Option Nat)(h:Below W.heap.size W W1):W.grownBy W1 b:=⟨h.os,h.tape,h.output,h.size,λk hk _=>h.block k hk⟩
def RowB (W:World)(blk N:Nat):Prop:=∃cur,Blk W blk cur 66/\cur.size=N
theorem RowB.same (h:RowB W blk N)(hs:W'.heap[blk]? =W.heap[blk]?):RowB W' blk N:=by
 obtain⟨cur,h1,h2⟩:=h;exact⟨cur,hs.trans h1,h2⟩
theorem RowB.setCells {blk N:Nat}:∀(vs:List Value) (o:Nat) (W:World),RowB W blk N->RowB (W.setCells blk o vs) blk N
 |[],_,_,h=>h
 |v::vs,o,W,⟨cur,h1,h2⟩=>RowB.setCells vs (o+1) _ ⟨_,h1.set o v,by simpa using h2⟩
theorem RowB.lt (h:RowB W blk N):blk<W.heap.size:=h.choose_spec.1.lt
structure SoW (w:World)(blk off N:Nat)(n:Nat)(d:Array Pc)(W:World):Prop where
 row:RowP W blk off d
 rb:RowB W blk N
 gr:w.grownBy W (some blk)
 sz:d.size=n
theorem SoW.below {d:Array Pc}(h:SoW w blk off N n d W)(hb:Below W.heap.size W W'):SoW w blk off N n d W' :=
 have e:=hb.block blk h.rb.lt
 ⟨h.row.same e,h.rb.same e,a2e h.gr (a2f _ hb),h.sz⟩
theorem SoW.drew {w:World}{blk off N n:Nat}{d:Array Pc}{W:World}(h:SoW w blk off N n d W):SoW w blk off N n d W.drew:=h.below ⟨rfl,rfl,rfl,yR _,λ_ _=>rfl⟩
theorem SoW.swap {d:Array Pc}(h:SoW w blk off N n d W)(hj:j+1<n):SoW w blk off N n (swp d (j+1) j) (d5o W blk off j d) :=
 ⟨d1n h.row (by rw[h.sz];exact hj),RowB.setCells _ _ _ (RowB.setCells _ _ _ h.rb),a2e h.gr (a2e (a1u _ _ _ _) (a1u _ _ _ _)),by rw[size_swp];exact h.sz⟩
theorem c3z (W:World)(blk o1 o2:Nat)(i1 x1 y1 w1 d1 i2 x2 y2 w2 d2:Int)(c1 n1 c2 n2:ByteArray):
 (W.setCells blk o1 (plE.enc ⟨i2,x2,y2,c2,n2,w2,d2⟩)).setCells blk o2 (plE.enc ⟨i1,x1,y1,c1,n1,w1,d1⟩)=((((((((((((((W.setCell ⟨blk,o1,none⟩ (.int .i64 i2)).setCell ⟨blk,o1+1,none⟩ (.int .i64 x2)).setCell ⟨blk,o1+2,none⟩ (.int .i64 y2)).setCell ⟨blk,o1+3,none⟩ (.string c2)).setCell ⟨blk,o1+4,none⟩ (.string n2)).setCell ⟨blk,o1+5,none⟩ (.int .i64 w2)).setCell ⟨blk,o1+6,none⟩ (.int .i64 d2)).setCell ⟨blk,o2,none⟩ (.int .i64 i1)).setCell ⟨blk,o2+1,none⟩ (.int .i64 x1)).setCell ⟨blk,o2+2,none⟩ (.int .i64 y1)).setCell ⟨blk,o2+3,none⟩ (.string c1)).setCell ⟨blk,o2+4,none⟩ (.string n1)).setCell ⟨blk,o2+5,none⟩ (.int .i64 w1)).setCell ⟨blk,o2+6,none⟩ (.int .i64 d1)):=by
 simp only[World.setCells,Nat.add_assoc,Nat.reduceAdd]
theorem d1o (a b:Pc):(ltOf a1j a b=true↔a1j a b<0):=by unfold ltOf;simp
end
section
open Go.RowKit Go.Maps
variable{b n:Nat}{W W':World}
theorem d1p:laidOutB prog=true:=by kernel_rfl
theorem c4a:prog.cellsOf 3=1:=by kernel_rfl
theorem b1o {n:Int}(h:fits n):(Lit.int .i64 n).wf=true:=by
 obtain⟨h0,h1⟩:=h;simp[Lit.wf,IntKind.min,IntKind.max,IntKind.signed,IntKind.bits];omega
theorem d5c {n:Int}(h:(Lit.int .i64 n).wf=true):fits n:=by
 exact yjq
theorem b1p (d:Nat)(cs:List Value)(L:List Lit)(h:prog.keyLits (d+1) 3 cs=some L):∃n,cs=[.int .i64 n]/\fits n/\L=[.int .i64 n]:=by
 unfold Program.keyLits at h;rw[underlying3]at h;match cs,h with
 |[.int q n],h =>
  simp only at h;split at h
  ·rename_i hq
   obtain⟨rfl,hw⟩:=hq
   cases h;exact⟨n,rfl,d5c hw,rfl⟩
  ·cases h
abbrev a0m :=Int×Int
abbrev a5u (p:a0m):List Value:=[.int .i64 p.1,.int .i64 p.2]
abbrev a4q (p:a0m):Value:= .agg #[.int .i64 p.1,.int .i64 p.2]
def a7h (p:a0m):Prop:=fits p.1/\fits p.2
def klS (p:a0m):Lit:= .string (keyBytes [.int .i64 p.1,.int .i64 p.2])
theorem c4b:(match prog.underlying 122 with|some (.array _ _)|some (.struct _)=>true|_=>false)=true:=by kernel_rfl
theorem b1q:prog.cellsOf 122=2:=by kernel_rfl
theorem spotLaw:Keyed prog 122:=Keyed.of_law (deep_law_laid d1p (m:=2) oM (of_decide_eq_true zM) zM c4b)
theorem d1q:prog.keyType 122=true:=by kernel_rfl
theorem a1q {p:a0m}(h:a7h p):keyOf prog 122 (a4q p)=some (klS p):=by
 obtain⟨x,y⟩:=p;obtain⟨hx,hy⟩:=h;have wx:=b1o hx;have wy:=b1o hy;unfold keyOf;rw[underlying122];have hf:(a4q (x,y)).formed prog 122=true:=by simp[Value.formed,underlying122,b1q]
 simp only[d1q,hf,Bool.and_self,if_true];have hk:prog.keyLits (prog.types.size+1) 122 [.int .i64 x,.int .i64 y]=some [.int .i64 x,.int .i64 y]:=by
  obtain⟨n,hn⟩:∃n,prog.types.size=n+1:=⟨prog.types.size-1,by have h:0<prog.types.size:=of_decide_eq_true zM;omega⟩;rw[hn];unfold Program.keyLits;rw[underlying122];simp[b1q,c4a,Program.keyLits,underlying3,wx,wy]
 exact congrArg (Option.map λls=>Lit.string (keyBytes ls)) hk
theorem a3m {v:Value}{l:Lit}(h:keyOf prog 122 v=some l):∃p,a7h p/\v=a4q p/\l=klS p:=by
 obtain⟨xs,L,rfl,hL,rfl⟩:=keyOf_top c4b h;obtain⟨n,hn⟩:∃n,prog.types.size=n+1:=⟨prog.types.size-1,by have h:0<prog.types.size:=of_decide_eq_true zM;omega⟩;rw[hn]at hL;unfold Program.keyLits at hL;rw[underlying122]at hL;simp only[b1q]at hL;split at hL
 ·rename_i hc
  obtain⟨hlen,-⟩:=hc;obtain⟨l⟩:=xs;match l,hlen with
  |[a,b],_ =>
   simp[c4a]at hL;rcases ha:prog.keyLits (n+1) 3 [a]with _|La
   ·rw[ha]at hL;simp at hL
   ·obtain⟨x,ex,fx,rfl⟩:=b1p n [a] La ha
    rcases hb:prog.keyLits (n+1) 3 [b]with _|Lb
    ·rw[ha,hb]at hL;simp at hL
    ·obtain⟨y,ey,fy,rfl⟩:=b1p n [b] Lb hb
     rw[ha,hb]at hL;simp at hL ex ey;subst ex;subst ey;subst hL;exact⟨(x,y),⟨fx,fy⟩,rfl,rfl⟩
 ·cases hL
theorem c7w {p q:a0m}(hp:a7h p)(hq:a7h q)(h:klS p=klS q):p=q:=by
 have h1:=a1q hp;rw[h]at h1;have h2:=spotLaw.inj h1 (a1q hq);simp at h2;exact Prod.ext h2.1 h2.2
theorem d1r {p q:a0m}(hp:a7h p)(hq:a7h q):(klS p).sameKey (klS q)=decide (p=q):=by
 by_cases h:p=q
 ·subst h
  simp[WideAt.sameKey_self (spotLaw.key (a1q hp))]
 ·simp only[h,decide_false]
  cases hs:(klS p).sameKey (klS q)
  ·rfl
  ·exact absurd (c7w hp hq (WideAt.sameKey_eq hs)) h
/-! ### a map's content: a list of dots with their numbers,each dot once -/
def a7a (l:List (a0m×Int))(p:a0m):Option Int:=(l.find? λe=>e.1==p).map (·.2)
def b0q (l:List (a0m×Int))(p:a0m):Bool:=l.any λe=>e.1==p
def MapIs (W:World)(b n:Nat)(l:List (a0m×Int)):Prop :=
 ∃(D:DataW Unit),W.ownsMap prog 122 (plainElem prog 3) b n D/\(l.map (·.1)).Nodup/\(∀e∈l,a7h e.1) /\
  ∀p,a7h p->has D (klS p)=b0q l p/\D.atKey (klS p) (.lit (.int .i64 0))= .lit (.int .i64 ((a7a l p).getD 0))
theorem MapIs.kept {l:List (a0m×Int)}{row:Option Nat}(h:MapIs W b n l)(hg:W.grownBy W' row)(hr:row≠some b):MapIs W' b n l:=by
 obtain⟨D,ho,h1,h2,h3⟩:=h;exact⟨D,ho.kept hg (λe=>hr e.symm),h1,h2,h3⟩
theorem MapIs.lt {l:List (a0m×Int)}(h:MapIs W b n l):b<W.heap.size:=by
 obtain⟨D,ho,-⟩:=h;exact ho.lt
theorem MapIs.alloc {W:World}{b n:Nat}{l:List (a0m×Int)}(h:MapIs W b n l)(o:Obj):MapIs (W.alloc o) b n l:=h.kept (World.grownBy_alloc W o none) vM
theorem MapIs.below {n₀:Nat}{l:List (a0m×Int)}(h:MapIs W b n l)(hb:Below n₀ W W')(hB:b<n₀):MapIs W' b n l:=by
 exact yik
theorem MapIs.made (W:World):MapIs (W.alloc (.map #[] 0)) W.heap.size 0 [] :=
 ⟨.map [],World.ownsMap_made W _ _ _,by simp,by simp,λp _=>⟨rfl,rfl⟩⟩
def b5n (l:List (a0m×Int))(p:a0m)(x:Int):List (a0m×Int):=if b0q l p then l.map (λe=>if e.1==p then(p,x)else e)else l++[(p,x)]
theorem a2h {l:List (a0m×Int)}{p:a0m}:b0q l p=true↔p∈l.map (·.1):=by
 unfold b0q;exact yfj
theorem a6a (l:List (a0m×Int))(p:a0m)(x:Int):(b5n l p x).map (·.1)=if b0q l p then l.map (·.1)else l.map (·.1)++[p]:=by
 unfold b5n;exact yii
theorem c4c (l:List (a0m×Int))(p q:a0m)(x:Int):b0q (b5n l p x) q=(decide (q=p)||b0q l q):=by
 rw[Bool.eq_iff_iff,a2h,a6a,Bool.or_eq_true,decide_eq_true_iff];rw[show(b0q l q=true)=(q∈l.map (·.1))from propext a2h];split
 ·rename_i h
  have:=a2h.1 h;constructor
  ·exact .inr
  ·rintro(rfl|h')
   ·exact this
   ·exact h'
 ·simp[or_comm]
theorem b5o (l:List (a0m×Int))(p q:a0m)(x:Int):a7a (b5n l p x) q=if q=p then some x else a7a l q:=by
 unfold b5n;split
 ·rename_i h
  unfold b0q at h;induction l with
  |nil=>simp at h
  |cons e l ih =>
   by_cases he:e.1=p
   ·by_cases hq:q=p
    ·subst hq;simp[a7a,he]
    ·have hne:¬p=q:=λh=>hq h.symm
     have:∀l:List (a0m×Int),a7a (l.map λe=>if e.1==p then(p,x)else e) q=a7a l q:=by
      intro l;induction l with
      |nil=>rfl
      |cons a l ih2 =>
       unfold a7a at ih2 ⊢;by_cases ha:a.1=p
       ·simp only[List.map_cons,ha,beq_self_eq_true,if_true,List.find?_cons]
        have h1:(p==q)=false:=by simpa using hne
        rw[h1];have h2:(a.1==q)=false:=by rw[ha];exact h1
        simp only[ha]at h2;simpa[ha,h1]using ih2
       ·have h1:(a.1==p)=false:=by simpa using ha
        simp only[List.map_cons,h1,List.find?_cons,Bool.false_eq_true,if_false]
        cases hh:a.1==q
        ·exact ih2
        ·rfl
     rw[this,if_neg hq]
   ·have h':l.any (λe=>e.1==p)=true:=by simpa[he]using h
    have ih:=ih h';unfold a7a at ih ⊢;have h1:(e.1==p)=false:=by simpa using he
    simp only[List.map_cons,h1,List.find?_cons,Bool.false_eq_true,if_false]
    cases hh:e.1==q
    ·exact ih
    ·have:e.1=q:=by simpa using hh
     have hq:¬q=p:=λh=>he (this.trans h)
     simp[hq]
 ·rename_i h
  unfold a7a;rw[List.find?_append];by_cases hq:q=p
  ·subst hq
   have:l.find? (λe=>e.1==q)=none:=by
    rw[List.find?_eq_none];intro e he hh;exact h (by unfold b0q;exact List.any_eq_true.2 ⟨e,he,hh⟩)
   simp[this]
  ·have h1:(p==q)=false:=by simpa using λe=>hq e.symm
   simp[h1,hq]
theorem MapIs.store {W:World}{l:List (a0m×Int)}{D:DataW Unit}{p:a0m}{x:Int}(hD:IsMap D)(h1:(l.map (·.1)).Nodup)(h2:∀e∈l,a7h e.1)
 (h3:∀p,a7h p->has D (klS p)=b0q l p/\D.atKey (klS p) (.lit (.int .i64 0))= .lit (.int .i64 ((a7a l p).getD 0))) (hp:a7h p)
 (ho:W'.ownsMap prog 122 (plainElem prog 3) b n (D.put (klS p) (.lit (.int .i64 x)))):MapIs W' b n (b5n l p x):=by
 refine⟨_,ho,?_,?_,λq hq=> ?_⟩
 ·rw[a6a]
  split
  ·exact h1
  ·rename_i h
   rw[List.nodup_append];refine⟨h1,by simp,λa ha c hc=> ?_⟩;obtain rfl:c=p:=by simpa using hc
   exact λe=>h (a2h.2 (e▸ha))
 ·intro e he
  have:e.1∈(b5n l p x).map (·.1):=List.mem_map.2 ⟨e,he,rfl⟩;rw[a6a]at this;exact yeh
 ·have hk:=spotLaw.key (a1q hp)
  rw[c4c,b5o];by_cases hqp:q=p
  ·subst hqp
   simp[has_put_same hD hk,atKey_put_same hD hk]
  ·have hne:klS q≠klS p:=λe=>hqp (c7w hq hp e)
   simp[has_put_other hne,atKey_put_other hne,hqp,h3 q hq]
end
section
open Go.RowKit Go.Maps Go.Shelf
attribute [local go_sem] Oper.semAt_some
def CollS (l:List (a0m×Int))(left:Lit->Bool)(ss:List a0m):Prop:=ss.Nodup/\(∀p∈ss,a7h p)/\∀p,a7h p->(p∈ss↔b0q l p=true/\left (klS p)=false)
theorem CollS.start {l:List (a0m×Int)}{D:DataW Unit}(h:∀p,a7h p->has D (klS p)=b0q l p):CollS l (has D) [] :=
 ⟨List.nodup_nil,by simp,λp hp=>by rw[h p hp];cases b0q l p <;> simp⟩
theorem CollS.step {l:List (a0m×Int)}{left:Lit->Bool}{ss:List a0m}(h:CollS l left ss){x:a0m}(hx:a7h x)(hl:left (klS x)=true)(hh:b0q l x=true):CollS l (λz=>left z&& !z.sameKey (klS x)) (ss++[x]):=by
 have hnew:x∉ss:=λhm=>by have:=((h.2.2 x hx).1 hm).2;rw[hl]at this;cases this
 refine⟨List.nodup_append.2 ⟨h.1,by simp,λa ha b hb=>by simp at hb;subst hb;exact λe=>hnew (e▸ha)⟩,λp hp=> ?_,λp hp=> ?_⟩
 ·rcases List.mem_append.1 hp with h1|h1
  ·exact h.2.1 p h1
  ·rw[show p=x by simpa using h1];exact hx
 ·rw[List.mem_append,h.2.2 p hp]
  show _↔_/\(left (klS p)&& !(klS p).sameKey (klS x))=false;rw[d1r hp hx];by_cases hpx:p=x
  ·subst hpx;simp[hh]
  ·simp[hpx]
theorem CollS.all {l:List (a0m×Int)}{left:Lit->Bool}{ss:List a0m}(h:CollS l left ss)(h0:∀kl,left kl=false)(hf:∀e∈l,a7h e.1):ss.Nodup/\∀p,p∈ss↔p∈l.map (·.1):=by
 refine⟨h.1,λp=> ?_⟩;constructor
 ·intro hp
  exact a2h.1 ((h.2.2 p (h.2.1 p hp)).1 hp).1
 ·intro hp
  obtain⟨e,he,rfl⟩:=List.mem_map.1 hp;exact(h.2.2 _ (hf e he)).2 ⟨a2h.2 hp,h0 _⟩
theorem d1s (F:Fence)(n:Nat)(hf:F.fn 162)(hro:F.round=none)(hn:1<=n)(l Bm b nn:Nat)(en:List (a0m×Int))(J Jx:List a0m->World->Prop)
 (hY:∀pre x W,J pre W->pre.length<nn->YieldAt F (n-1) prog l #[a4q x] W λe W' =>
  (e= .returned (.bool true)/\J (pre++[x]) W'/\KeepsWalks W W')\/(e= .returned (.bool false)/\Jx (pre++[x]) W'))
 (W:World) (hJ:AbidesFrom W.heap.size J) (hm:W.cell? ⟨Bm,0,none⟩=some (.map (some b))) (hM:MapIs W b nn en) (h0:J [] W) :
 CallsIn F n prog 162 #[.func (.yield l) #[] #[],.pointer (some ⟨Bm,0,none⟩)] W λe W'=>(∃v,e= .returned v) /\
  ((∃ss,(ss.Nodup/\∀p,p∈ss↔p∈en.map (·.1))/\J ss W')\/(∃pre,(pre.Nodup/\∀p∈pre,p∈en.map (·.1))/\Jx pre W')):=by
 obtain⟨D,hown,hnd,hfit,hkeys⟩:=hM;refine callsIn_of_wp func162 rfl hf ?_ hro;simp only[ntmps162,List.size_toArray,List.length_cons,List.length_nil,Nat.reduceAdd,Nat.reduceSub,Array.replicate_succ,Array.replicate_zero,List.push_toArray,List.append_toArray,List.nil_append,List.cons_append];have hlk0:=Lib.hid hkeys;clear hkeys;gi_wp2_with (first|(gi_at_range;refine wpListIn_range_own _ rfl _ 117 rfl 122 3 spotLaw underlying117 _ b nn _ rfl hown ?_;intro w0 hrg0 hg0 hs0)|gi_in)
 go_frame
 gi_loopw [3] (λ_ wr=>∃(left:Lit->Bool) (cnt:Nat) (ss:List a0m),wr.ranges prog 122 (plainElem prog 3) b W.heap.size nn D left cnt/\ss.length+cnt<=Maps.size D/\CollS en left ss/\J ss wr)
  (λ_ wr=>wr.rangeLeft b W.heap.size)
 case atStart =>
  exact⟨_,_,[],hrg0,by simp,CollS.start (λp hp=>(hlk0.out p hp).1),hJ [] W w0 none h0 hg0 (λr e=>by cases e)⟩
 case round =>
  obtain⟨left,cnt,ss,hrg,hcs,hC,hJs⟩:=hrel;have hsz:=hown.size_le;gi_wp2_with (first|(gi_at_next;refine wpListIn_next_ranges _ rfl _ rfl 122 spotLaw (plainElem prog 3) a4q id (λkey kl hk=>by obtain⟨x,_,hx,_⟩:=a3m hk;exact⟨x,hx⟩) (λv _ _=>⟨v,rfl⟩) b W.heap.size nn _ _ _ rfl hrg ?_ ?_)|gi_in)
  ·intro hc0 hl0
   gi_wp2;go_end0;exact⟨⟨_,rfl⟩,.inl ⟨ss,hC.all hl0 hfit,hJs⟩⟩
  ·intro x0 x1 c kl yd yp w2 cnt2 hkey hlk hv hat hrg2 hlt hg2 hs2 hen
   obtain⟨x',fx,ex,rfl⟩:=a3m hkey;obtain rfl:(x0,x1)=x':=by simp at ex;exact Prod.ext ex.1 ex.2
   have hJ2:J ss w2:=hJ ss wr w2 (some W.heap.size) hJs hg2 (λr e=>by cases e;exact⟨yR _,hrg.iter_walk⟩);have hhas:b0q en (x0,x1)=true:=by rw[<-(hlk0.out (x0,x1) fx).1];exact has_true_of_atKey hat
   have hC2:=hC.step fx hlk hhas;clear hs2 hkey hhas;obtain⟨fn,tmps,assign,body,hy,hR⟩:=hY ss (x0,x1) (w2.alloc (.cells #[.int .i64 x0,.int .i64 x1] 122)) (hJ ss w2 _ none hJ2 (World.grownBy_alloc w2 _ none) (λr e=>by cases e)) oM;gi_wp2;refine hR.mono ?_;rintro e W3 (⟨rfl,hJ3,hk3⟩|⟨rfl,hJx3⟩)
   ·gi_wp2
    have hrg3:=(hrg2.alloc (.cells #[.int .i64 x0,.int .i64 x1] 122)).of_walks hk3;go_roundw
    case rel=>exact⟨_,cnt2,ss++[(x0,x1)],hrg3,by simp;omega,hC2,hJ3⟩
    case measure=>rw[hrg3.left_eq,hrg.left_eq];exact hlt
   ·gi_wp2
    refine bodyPost_ret (results_none rfl _ _ _) rfl ?_;exact⟨⟨_,rfl⟩,.inr ⟨ss++[(x0,x1)],⟨hC2.1,λy hy=>by have fy:=hC2.2.1 y hy;exact a2h.1 ((hC2.2.2 y fy).1 hy).1⟩,hJx3⟩⟩
theorem c7x (F:Fence)(n:Nat)(hf:F.fn 124)(hro:F.round=none)(mb:Option Nat)(w:World) :
 CallsIn F n prog 124 #[.map mb] w λe w'=>e= .returned (.func (.func 162) #[] #[.pointer (some ⟨w.heap.size,0,none⟩)])/\w'=w.alloc (.cells #[.map mb] 117):=by
 refine callsIn_of_wp func124 rfl hf ?_ hro;simp only[ntmps124,List.size_toArray,List.length_cons,List.length_nil,Nat.reduceAdd,Nat.reduceSub,Array.replicate_succ,Array.replicate_zero,List.push_toArray,List.append_toArray,List.nil_append,List.cons_append];gi_wp2;go_ret;exact⟨rfl,rfl⟩
theorem b3z (F:Fence)(n:Nat)(hf:F.fn 162)(hro:F.round=none)(hn:1<=n)(Bm b nn:Nat)(en:List (a0m×Int))(w:World)(hBm:Bm<w.heap.size)
 (hm:w.cell? ⟨Bm,0,none⟩=some (.map (some b))) (hM:MapIs w b nn en) :
 SeqStopsK F n prog 162 #[.pointer (some ⟨Bm,0,none⟩)] (λx:a0m=> #[a4q x]) KeepsWalks (λss=>ss.Nodup/\∀p,p∈ss↔p∈en.map (·.1)) (λpre=>pre.Nodup/\∀p∈pre,p∈en.map (·.1)) nn w:=λl J Jx W hW hJ _ hY h0 =>
 d1s F n hf hro hn l Bm b nn en J Jx hY W hJ ((hW.cell (p:=⟨Bm,0,none⟩) hBm).trans hm) (hM.below hW hM.lt) h0
end
section
open Go.RowKit Go.Shelf
theorem c7y {β:Type}(B:Nat)(t:TypeId)(f:β->Array Value):Own (λs W=>Blk W B (f s) t):=λs X Y row hs hg hrow =>
 hs.kept hg (λe'=>by obtain⟨o,ho,hc⟩:=hrow B e';rw[show X.heap[B]? =_ from hs]at ho;cases ho;cases hc)
theorem b5p {W:World}{base:Nat}{e:TypeId}{size:Nat}{v:Value}{k:Nat}{xs:List Value}(h:W.ownsRow base e size v k xs):∀(j:Nat) (o:Obj),v.ownBlock=some j->W.heap[j]? =some o->o.isCells=true:=by
 intro j o hj ho;rcases h.2 with⟨rfl,_⟩|⟨g,cap,cur,rfl,_,hgb,_⟩
 ·simp[Value.ownBlock]at hj
 ·have:g=j:=by simpa[Value.ownBlock]using hj
  subst this;rw[hgb]at ho;cases ho;rfl
end
section
open Go.RowKit Go.Shelf
attribute [local go_sem] Oper.semAt_some
theorem d1t :(prog.info? 122).map (λi=>(i.zero,i.size,i.bytes))=some (some (.agg #[.int .i64 0,.int .i64 0]),2,16):=by kernel_rfl
structure ApI (w:World)(B:Nat)(pre:List a0m)(W:World):Prop where
 box:∃v,Blk W B #[v] 188/\W.ownsRow w.heap.size 122 2 v pre.length (pre.flatMap a5u)/\(v= .slice none 0 0↔pre=[])
 below:Below w.heap.size w W
theorem d5p (w:World)(B B':Nat)(hB:w.heap.size<=B'):OwnFrom B' (ApI w B):=λs X Y row hs hg hr=>by
 obtain⟨v,hb,hrow,hn⟩:=hs.box;exact⟨⟨v,hb.kept hg (λe'=>by obtain⟨-,o,ho,hc⟩:=hr B e';rw[show X.heap[B]? =_ from hb]at ho;cases ho;cases hc),
  a0r hrow hg (λr e=>by obtain⟨-,o,ho,hc⟩:=hr r e;exact⟨o,ho,λcur e=>by subst e;cases hc⟩),hn⟩,hs.below.grown hg hs.below.size (λk e=>Nat.le_trans hB (hr k e).1)⟩
theorem b7u (F:Fence)(n:Nat)(hf:F.fn 179)(hro:F.round=none)(hn:2<=n)(g:Nat)(lb:Array Value)(hFg:F.fn g)(eg:∀args w,(callFunc g args).run prog w= .ok (.enter g args) w)
 (S Sp:List a0m->Prop) (N:Nat) (hN:N<=4294967296) (w:World) (hseq:SeqStopsK F (n-1) prog g lb (λx:a0m=> #[a4q x]) KeepsWalks S Sp N w) :
 CallsIn F n prog 179 #[.slice none 0 0,.func (.func g) #[] lb] w λe w'=>∃v ss,e= .returned v/\S ss/\w'.ownsRow w.heap.size 122 2 v ss.length (ss.flatMap a5u)/\(v= .slice none 0 0↔ss=[])/\Below w.heap.size w w':=by
 have h1:1<=n:=oM;obtain⟨i0,hi0,hz0,hz1,hz2⟩:=info_parts d1t;refine callsIn_of_wp_marks func179 rfl hf ?_ hro;simp only[ntmps179,List.size_toArray,List.length_cons,List.length_nil,Nat.reduceAdd,Nat.reduceSub,Array.replicate_succ,Array.replicate_zero,List.push_toArray,List.append_toArray,List.nil_append,List.cons_append];gi_wp2;have bS:=Blk.new w #[.slice none 0 0] 188;obtain⟨W0,hW0⟩:=zE (w.alloc (.cells #[.slice none 0 0] 188));have hB0:Below w.heap.size w W0:=by rw[<-hW0];exact zC
 have hsz:W0.heap.size=w.heap.size+1:=by rw[<-hW0];simp
 rw[hW0]at bS ⊢;clear hW0;refine wpIn_rangeFunc_ownH hro h1 (gf:=g) (lb:=lb) rfl hFg eg hseq walksK_t walksK_b hB0 (λ_=>rfl)
  (ApI w w.heap.size) (λ_ _ _=>False)
  (d5p w _ _ oM) (λc=>ownFrom_pure _ _)
  ⟨⟨_,bS,⟨rfl,.inl ⟨rfl,rfl⟩⟩,by simp⟩,hB0⟩
  (λx a' W=>∃Bx,w.heap.size<Bx/\Blk W Bx #[.int .i64 x.1,.int .i64 x.2] 122/\a'={ tmps:= #[.slice none 0 0,.func (.func g) #[] lb,.pointer (some ⟨w.heap.size,0,none⟩),undef,.slice none 0 0,.pointer (some ⟨Bx,0,none⟩),.func (.func g) #[] lb,a4q x,undef,undef,undef,undef,undef],defers:=[] })
  (λx a' _ X Y row hs hg hr=>by obtain⟨Bx,h1,h2,h3⟩:=hs;exact⟨Bx,h1,c7y Bx 122 (λ(_:Unit)=> #[Value.int .i64 x.1,Value.int .i64 x.2]) () X Y row h2 hg (λr e=>(hr r e).2),h3⟩)
  ?assign ?body ?done ?stop
 case assign =>
  rintro l pre x W K⟨⟨v,bS1,hrow,hnl⟩,hB1⟩ hK;gi_wp2;have hlt:=bS1.lt;exact hK _ _ ((KeepsOthers.alloc _ _).from _) (KeepsWalks.alloc _ _) ⟨⟨v,bS1.alloc _,hrow.alloc _,hnl⟩,hB1.alloc hB1.size _⟩ ⟨W.heap.size,oM,Blk.new W _ _,rfl⟩
 case body =>
  rintro l pre x a' W hl⟨r,hr⟩ ⟨⟨v,bS1,hrow,hnl⟩,hB1⟩ ⟨Bx,hBx,bX,rfl⟩ hlt;have cS:W.cell? ⟨w.heap.size,0,none⟩=some v:=bS1.cell 0;have fS:=bS1.frozen 0;have cX0:W.cell? ⟨Bx,0,none⟩=some (.int .i64 x.1):=bX.cell 0;have cX1:W.cell? ⟨Bx,1,none⟩=some (.int .i64 x.2):=bX.cell 1;obtain⟨x0,x1⟩:=x;simp only at cX0 cX1;have hne:188≠122:=jM;have hne2:=a0o (hrow.alloc (.cells #[.int .i64 x0,.int .i64 x1] 122)) (bS1.alloc _) hne;have hsW:=hB1.size;have hnews:∀j u,(a5u (x0,x1))[j]? =some u->(W.alloc (.cells #[.int .i64 x0,.int .i64 x1] 122)).cell? ((⟨W.heap.size,0,none⟩:Addr).add j)=some u:=λj u hj=>by
   have hb:=(Blk.new W #[.int .i64 x0,.int .i64 x1] 122).cell j;rw[Go.WideShapes.add_plain,Nat.zero_add,hb];match j,hj with
   |0,hj=>exact hj
   |1,hj=>exact hj
   |j+2,hj=>simp at hj
  have h1c:∀u∈a5u (x0,x1),u.oneCell'=true:=by simp[Value.oneCell']
  gi_wp2_with (first|(gi_at_builtin;refine wpListIn_append_own _ qM _ _ 188 qM w.heap.size 122 i0 _ 2 16 underlying188 hi0 hz0 hz1 hz2 qM jM v pre.length _ qM (hrow.alloc _) ⟨W.heap.size,0,none⟩ 1 1 (a5u (x0,x1)) qM qM hnews h1c oK oM uM ?_;intro v' w3 hown' hg3 hnil3;have bS3:=(bS1.alloc (.cells #[.int .i64 x0,.int .i64 x1] 122)).kept hg3 hne2;have cS3:w3.cell? ⟨w.heap.size,0,none⟩=some v:=bS3.cell 0;have fS3:=bS3.frozen 0;obtain⟨g',cap',rfl⟩:∃g' cap',v'= .slice (some ⟨g',0,none⟩) (pre.length+1) cap':=(by rcases hown'.2 with⟨_,h0⟩|⟨g',cap',cur',e',_⟩;exact absurd h0 oM;exact⟨g',cap',e'⟩);go_frame)|gi_in)
  have hko:KeepsOthers W (w3.setCell ⟨w.heap.size,0,none⟩ (.slice (some ⟨g',0,none⟩) (pre.length+1) cap')) :=
   (KeepsOthers.alloc _ _).trans ((KeepsOthers.of_grownBy hg3 (b5p (hrow.alloc _))).trans (KeepsOthers.setCell _ _ _))
  have hB3:Below w.heap.size w w3:=(hB1.alloc hsW _).grown hg3 uM (λk e=>(hrow.lt k e).1);refine⟨hko.from _,hko.walks,⟨⟨_,by have:=bS3.set 0 (.slice (some ⟨g',0,none⟩) (pre.length+1) cap');simpa using this,?_,by simp⟩,hB3.setCell (p:=⟨w.heap.size,0,none⟩) (yR _) _⟩⟩;have:=hown'.kept (grownBy_setCell' w3 w.heap.size (.slice (some ⟨g',0,none⟩) (pre.length+1) cap')) (.inr (a0o hown' bS3 hne));simpa using this
 case done =>
  rintro D ys W hD hS⟨⟨v,bS1,hrow,hnl⟩,hB1⟩ hK;have cS:W.cell? ⟨w.heap.size,0,none⟩=some v:=bS1.cell 0;have fS:=bS1.frozen 0;gi_wp2;refine⟨by simp,.inl ⟨_,_,rfl,run_takeDeferred hK,?_⟩⟩;exact⟨_,results_tmp rfl _ _ _,v,ys,rfl,hS,a0r hrow (grownBy_putObj' _ _ _) (λr e=>by cases e;exact⟨_,hK,λcur e=>by cases e⟩),hnl,hB1.grown (grownBy_putObj' _ _ _) hB1.size (λk e=>by cases e;omega)⟩
 case stop =>
  rintro D c pre W hD hS hF hK;exact hF.elim
theorem b4a (F:Fence)(n:Nat)(hf:F.fn 160)(hf2:F.fn 179)(hro:F.round=none)(hn:3<=n)(g:Nat)(lb:Array Value)(hFg:F.fn g)(eg:∀args w,(callFunc g args).run prog w= .ok (.enter g args) w)
 (S Sp:List a0m->Prop) (N:Nat) (hN:N<=4294967296) (w:World) (hseq:SeqStopsK F (n-1-1) prog g lb (λx:a0m=> #[a4q x]) KeepsWalks S Sp N w) :
 CallsIn F n prog 160 #[.func (.func g) #[] lb] w λe w'=>∃v ss,e= .returned v/\S ss/\w'.ownsRow w.heap.size 122 2 v ss.length (ss.flatMap a5u)/\(v= .slice none 0 0↔ss=[])/\Below w.heap.size w w':=by
 have h1:1<=n:=oM;refine callsIn_of_wp func160 rfl hf ?_ hro;simp only[ntmps160,List.size_toArray,List.length_cons,List.length_nil,Nat.reduceAdd,Nat.reduceSub,Array.replicate_succ,Array.replicate_zero,List.push_toArray,List.append_toArray,List.nil_append,List.cons_append];gi_wp2_with (gi_at_call 179;refine(b7u F (n-1) hf2 hro oM g lb hFg eg S Sp N hN _ hseq).mono ?_;rintro e w'⟨v,ss,rfl,hS,hrow,hnl,hb⟩)
 go_ret;exact⟨v,ss,rfl,hS,hrow,hnl,hb⟩
end
section
open Go.RowKit
theorem a6b {k:IntKind}{a b:Int}(h:a=b):Ending.returned (.int k a)= .returned (.int k b):=by rw[h]
end
section
open Go.RowKit Go.Shelf
attribute [local go_sem] Oper.semAt_some
variable{a b hi lo m n r x y:Int}
theorem c5i (n lo hi:Int)(w:World):
 Calls prog 59 #[.int .i64 n,.int .i64 lo,.int .i64 hi] w λe w'=>e= .returned (.bool (decide (lo<=n)&&decide (n<=hi)))/\w=w':=by
 go_enter func59,ntmps59;exact yjr
theorem c0w (hb:0<b):a / b=if a.tmod b<0 then a.tdiv b-1 else a.tdiv b:=by
 have h1:=Int.mul_tdiv_add_tmod a b;have h2:=Int.lt_tmod_of_pos a hb;have h3:=Int.tmod_lt_of_pos a hb;split
 ·refine((Int.ediv_emod_unique (a:=a) (b:=b) (r:=a.tmod b+b) (q:=a.tdiv b-1) hb).2 ⟨?_,?_,?_⟩).1
  ·rw[Int.mul_sub];omega
  ·omega
  ·omega
 ·refine((Int.ediv_emod_unique (a:=a) (b:=b) (r:=a.tmod b) (q:=a.tdiv b) hb).2 ⟨?_,?_,?_⟩).1
  ·omega
  ·omega
  ·omega
theorem b5q (hb:0<b)(h0 : -m<=a)(h1:a<=m): -m<=a.tdiv b/\a.tdiv b<=m:=by
 have h:(a.tdiv b).natAbs=a.natAbs / b.natAbs:=Int.natAbs_tdiv a b;have h2:a.natAbs / b.natAbs<=a.natAbs:=Nat.div_le_self _ _;omega
theorem c7z (hb:0<b)(h0 : -m<=a)(h1:a<=m): -m<=a / b/\a / b<=m:=by
 have h:=Int.ediv_nonneg (a:=a+b*m) (b:=b) (by have:1*m<=b*m:=Int.mul_le_mul_of_nonneg_right oM oM;omega) oM;rw[Int.add_mul_ediv_left _ _ oM]at h;have:=Int.ediv_le_self b (a:=a);have h3:=(b5q hb h0 h1).2;have h4:=c0w (a:=a) hb;split at h4 <;> omega
theorem c8a (a b:Int)(w:World)(hb:0<b)(h0 : -4611686018427387904<=a)(h1:a<=4611686018427387904):
 Calls prog 140 #[.int .i64 a,.int .i64 b] w λe w'=>e= .returned (.int .i64 (a / b))/\w=w':=by
 obtain⟨q0,q1⟩:=b5q hb h0 h1;have hb0:¬b=0:=oM;have he:=c0w (a:=a) hb;go_enter func140,ntmps140;by_cases hs:a.tmod b<0
 ·rw[if_pos hs]at he
  replace he:=Lib.hid he;exact yga
 ·rw[if_neg hs]at he
  replace he:=Lib.hid he;exact yga
def a1f (x y:Int):Bool:=decide (-16384<=x)&&decide (x<=16384)&&(decide (-16384<=y)&&decide (y<=16384))
theorem c8b (x:Int)(b:Nat)(w:World)(hc:w.cell? ⟨b,0,none⟩=some (.int .i64 16384)):
 Calls prog 155 #[.int .i64 x,.pointer (some ⟨b,0,none⟩)] w λe w'=>e= .returned (.bool (!(decide (-16384<=x)&&decide (x<=16384))))/\∃q,w'=w.drewN q:=by
 go_enter func155,ntmps155;by_cases h1:x < -16384
 ·go_wp2_with fail
  go_ret;exact⟨by simp;omega,0,rfl⟩
 ·by_cases h2:16384<x
  ·go_wp2_with fail
   go_ret;exact⟨by simp;omega,0,rfl⟩
  ·go_wp2_with fail
   go_ret;exact⟨by simp <;> omega,0,rfl⟩
theorem d7s (b:Nat)(w:World)(hb:b<w.heap.size)(hc:w.cell? ⟨b,0,none⟩=some (.int .i64 16384)):
 PredAt prog 155 #[.pointer (some ⟨b,0,none⟩)] (Value.int .i64) (λx=> !(decide (-16384<=x)&&decide (x<=16384))) w:=λW x h =>
 c8b x b W ((h.cell (p:=⟨b,0,none⟩) hb).trans hc)
theorem c0x (x y:Int)(b:Nat)(w:World)(h0:w.cell? ⟨b,0,none⟩=some (.int .i64 x))(h1:w.cell? ⟨b,1,none⟩=some (.int .i64 y)):
 Calls prog 112 #[.int .i64 16384,.slice (some ⟨b,0,none⟩) 2 2] w λe w'=>e= .returned (.bool (a1f x y))/\Below w.heap.size w w':=by
 have hl0:=World.block_lt_of_cell? _ _ h0;have e63:∀args w,(callFunc 155 args).run prog w= .ok (.enter 155 args) w:=enters_of func155 zM rfl;have hcon:=Go.Proofs.Tryz.slices_ContainsFunc (Value.int .i64) (λx=> !(decide (-16384<=x)&&decide (x<=16384))) 155 #[.pointer (some ⟨w.heap.size,0,none⟩)] e63 b 0 2 2 [x,y] (w.alloc (.cells #[.int .i64 16384] 3))
  (d7s w.heap.size _ vM vM) (yR 2) oM (λj hj=>by
   refine Lib.cell?_alloc_some _ ?_;match j,hj with
   |0,_=>exact h0
   |1,_=>exact h1)
 have hr:(([x,y].take 2).any λx=> !(decide (-16384<=x)&&decide (x<=16384)))= !a1f x y:=by simp[a1f]
 rw[hr]at hcon;clear hr;generalize hg:a1f x y=r at hcon ⊢;clear hg;go_enter func112,ntmps112;go_wp2_with (go_at_call 154;refine hcon.mono ?_;rintro e w'⟨rfl,q,rfl⟩);go_ret;exact⟨by simp,below_drewN' ((zR _ w).alloc (yR _) _) q⟩
theorem c8c (x y:Int)(w:World):
 Calls prog 60 #[.agg #[.int .i64 x,.int .i64 y]] w λe w'=>e= .returned (.bool (a1f x y))/\Below w.heap.size w w':=by
 go_enter func60,ntmps60;go_wp2_with (go_at_call 112;refine(c0x x y _ _ vM vM).mono ?_;rintro e w'⟨rfl,hb_⟩;obtain⟨p,rfl⟩:=a0b hb_;clear hb_);exact ybl
structure Sh where
 ax:Int
 ay:Int
 st:Int
 w:Int
 h:Int
 g:Int
abbrev shV (s:Sh):Value:= .agg #[.int .i64 s.ax,.int .i64 s.ay,.int .i64 s.st,.int .i64 s.w,.int .i64 s.h,.int .i64 s.g]
def inR (lo n hi:Int):Bool:=decide (lo<=n)&&decide (n<=hi)
theorem a9c:inR lo n hi=true↔lo<=n/\n<=hi:=by simp[inR]
def a1g (s:Sh):Int :=
 if inR 1 s.st 1024&&inR 1 s.w 80&&inR 1 s.h 80&&inR 1 s.g 4 then
  if a1f s.ax s.ay&&a1f (s.ax+s.w*s.st) (s.ay+s.h*s.st)then 0 else 10
 else 3
theorem a3o {b:Bool}(h:inR lo n hi=b)(w:World):
 Calls prog 59 #[.int .i64 n,.int .i64 lo,.int .i64 hi] w λe w'=>e= .returned (.bool b)/\w=w':=by
 have h':=c5i n lo hi w;rw[show(decide (lo<=n)&&decide (n<=hi))=b from h]at h';exact h'
theorem a8c {b:Bool}(h:a1f x y=b)(w:World):
 Calls prog 60 #[.agg #[.int .i64 x,.int .i64 y]] w λe w'=>e= .returned (.bool b)/\Below w.heap.size w w':=by
 have h':=c8c x y w;rw[h]at h';exact h'
theorem d5q (x y a b:Int)(w:World)(h1 : -4611686018427387904<=x)(h2:x<=4611686018427387903)(h3 : -4611686018427387904<=y)(h4:y<=4611686018427387903)(h5 : -4611686018427387904<=a)(h6:a<=4611686018427387903)(h7 : -4611686018427387904<=b)(h8:b<=4611686018427387903):
 Calls prog 61 #[.agg #[.int .i64 x,.int .i64 y],.agg #[.int .i64 a,.int .i64 b]] w λe w'=>e= .returned (.agg #[.int .i64 (x+a),.int .i64 (y+b)])/\Below w.heap.size w w':=by
 go_enter func61,ntmps61;go_wp2_with fail;exact bodyPost_ret (v:= .agg #[.int .i64 (x+a),.int .i64 (y+b)]) (by simp[results,results61,go_sem]) rfl ⟨rfl,zC⟩
theorem c8d (s:Sh)(w:World)(f0:fits s.ax)(f1:fits s.ay):
 Calls prog 22 #[shV s] w λe w'=>e= .returned (.int .i64 (a1g s))/\Below w.heap.size w w':=by
 obtain⟨ax,ay,st,W,H,G⟩:=s;obtain⟨b1,h1⟩:=zE (inR 1 st 1024);obtain⟨b2,h2⟩:=zE (inR 1 W 80);obtain⟨b3,h3⟩:=zE (inR 1 H 80);obtain⟨b4,h4⟩:=zE (inR 1 G 4);obtain⟨b5,h5⟩:=zE (a1f ax ay);obtain⟨b6,h6⟩:=zE (a1f (ax+W*st) (ay+H*st));have hr:a1g ⟨ax,ay,st,W,H,G⟩=if b1&&b2&&b3&&b4 then(if b5&&b6 then 0 else 10)else 3:=by
  unfold a1g;simp only[h1,h2,h3,h4,h5,h6]
 rw[hr];clear hr
 cases b1 with
 |false =>
  replace h1:=Lib.hid h1;clear h2 h3 h4 h5 h6;go_enter func22,ntmps22;exact yho
 |true =>
 cases b2 with
 |false =>
  replace h1:=Lib.hid h1;replace h2:=Lib.hid h2;clear h3 h4 h5 h6;go_enter func22,ntmps22;exact ygi
 |true =>
 cases b3 with
 |false =>
  replace h1:=Lib.hid h1;replace h2:=Lib.hid h2;replace h3:=Lib.hid h3;clear h4 h5 h6;go_enter func22,ntmps22;go_wp2_with (go_at_call 59;refine(a3o (by first|with_reducible exact h1.out|with_reducible exact h2.out|with_reducible exact h3.out) _).mono ?_;rintro e w'⟨rfl,rfl⟩);exact ybl
 |true =>
 cases b4 with
 |false =>
  replace h1:=Lib.hid h1;replace h2:=Lib.hid h2;replace h3:=Lib.hid h3;replace h4:=Lib.hid h4;clear h5 h6;go_enter func22,ntmps22;go_wp2_with (go_at_call 59;refine(a3o (by first|with_reducible exact h1.out|with_reducible exact h2.out|with_reducible exact h3.out|with_reducible exact h4.out) _).mono ?_;rintro e w'⟨rfl,rfl⟩);exact ybl
 |true =>
 have q1:=a9c.1 h1;have q2:=a9c.1 h2;have q3:=a9c.1 h3;obtain⟨q10,q11⟩:=q1;obtain⟨q20,q21⟩:=q2;obtain⟨q30,q31⟩:=q3;have m1:=Int.mul_le_mul (a:=W) (b:=st) (c:=80) (d:=1024) q21 q11 oM oM;have m2:=Int.mul_le_mul (a:=H) (b:=st) (c:=80) (d:=1024) q31 q11 oM oM;have m3:=Int.mul_nonneg (a:=W) (b:=st) oM oM;have m4:=Int.mul_nonneg (a:=H) (b:=st) oM oM;have m1:W*st<=81920:=m1;have m2:H*st<=81920:=m2
 cases b5 with
 |false =>
  replace h1:=Lib.hid h1;replace h2:=Lib.hid h2;replace h3:=Lib.hid h3;replace h4:=Lib.hid h4;replace h5:=Lib.hid h5;clear h6;go_enter func22,ntmps22;go_wp2_with (first|(go_at_call 59;refine(a3o (by first|with_reducible exact h1.out|with_reducible exact h2.out|with_reducible exact h3.out|with_reducible exact h4.out) _).mono ?_;rintro e w'⟨rfl,rfl⟩)|(go_at_call 60;refine(a8c (by first|with_reducible exact h5.out) _).mono ?_;rintro e w'⟨rfl,hb_⟩;obtain⟨p,rfl⟩:=a0b hb_;clear hb_));exact ybl
 |true =>
 have q5:(-16384<=ax/\ax<=16384) /\ -16384<=ay/\ay<=16384:=by simpa[a1f]using h5
 obtain⟨⟨q50,q51⟩,q52,q53⟩:=q5
 cases b6 with
 |false =>
  exact ybc
 |true =>
  exact ybc
def c0y (s:Sh)(x:Int):Int:=(x-s.ax) / s.st
def c0z (s:Sh)(y:Int):Int:=(y-s.ay) / s.st
def onS (s:Sh)(i j:Int):Bool:=inR 0 i (s.w-1)&&inR 0 j (s.h-1)
structure OkS (s:Sh):Prop where
 st0:1<=s.st
 st1:s.st<=1024
 w0:1<=s.w
 w1:s.w<=80
 h0:1<=s.h
 h1:s.h<=80
 x0 : -16384<=s.ax
 x1:s.ax<=16384
 y0 : -16384<=s.ay
 y1:s.ay<=16384
theorem a2i:a1f x y=true↔(-16384<=x/\x<=16384) /\ -16384<=y/\y<=16384:=by simp[a1f]
theorem a4h {s:Sh}(h:a1g s=0):OkS s:=by
 unfold a1g at h;split at h
 ·rename_i h1
  split at h
  ·rename_i h2
   simp only[Bool.and_eq_true,a9c,a2i]at h1 h2;exact⟨oM,oM,oM,oM,oM,oM,oM,oM,oM,oM⟩
  ·omega
 ·omega
theorem b0y (hr:a / b=r)(w:World)(hb:0<b)(h0 : -4611686018427387904<=a)(h1:a<=4611686018427387904):
 Calls prog 140 #[.int .i64 a,.int .i64 b] w λe w'=>e= .returned (.int .i64 r)/\w=w':=by
 have h:=c8a a b w hb h0 h1;rw[hr]at h;exact h
theorem c8e (s:Sh)(x y i j:Int)(w:World)(hi:c0y s x=i)(hj:c0z s y=j)(hs:OkS s)(x0 : -1048576<=x)(x1:x<=1048576)(y0 : -1048576<=y)(y1:y<=1048576):
 Calls prog 83 #[shV s,.agg #[.int .i64 x,.int .i64 y]] w λe w'=>e= .returned (.agg #[.int .i64 i,.int .i64 j])/\Below w.heap.size w w':=by
 obtain⟨ax,ay,st,W,H,G⟩:=s;obtain⟨s0,s1,-,-,-,-,a0,a1,b0,b1⟩:=hs;simp only[c0y,c0z]at hi hj s0 s1 a0 a1 b0 b1;replace hi:=Lib.hid hi;replace hj:=Lib.hid hj;go_enter func83,ntmps83;go_wp2_with fail;first|with_reducible refine a0f 19 zM zM ?_|with_reducible refine a0i 19 zM zM ?_
 simp only[zT];repeat(first|go_big_quiet_step ((go_at_call 140;exact Calls.grow_of_same (b0y (by first|with_reducible exact hi.out|with_reducible exact hj.out) _ oM oM oM)))|quiet_step ((go_at_call 140;exact Calls.grow_of_same (b0y (by first|with_reducible exact hi.out|with_reducible exact hj.out) _ oM oM oM))))
 refine wpQuiet_nil ?_;intro _ hw_;obtain⟨p,hw_⟩:=hw_;subst hw_;go_wp2_with fail;exact bodyPost_ret (v:= .agg #[.int .i64 i,.int .i64 j]) (by simp[results,results83,go_sem]) rfl ⟨rfl,zC⟩
theorem b4b (s:Sh)(i j:Int)(b:Bool)(w:World)(hb:onS s i j=b)(hs:OkS s):
 Calls prog 67 #[shV s,.agg #[.int .i64 i,.int .i64 j]] w λe w'=>e= .returned (.bool b)/\Below w.heap.size w w':=by
 obtain⟨ax,ay,st,W,H,G⟩:=s;obtain⟨s0,s1,u0,u1,v0,v1,a0,a1,b0,b1⟩:=hs;simp only[onS]at hb u0 u1 v0 v1;obtain⟨c1,h1⟩:=zE (inR 0 i (W-1));obtain⟨c2,h2⟩:=zE (inR 0 j (H-1));rw[h1,h2]at hb;subst hb;replace h1:=Lib.hid h1;replace h2:=Lib.hid h2
 cases c1
 ·go_enter func67,ntmps67
  exact yho
 ·go_enter func67,ntmps67
  exact ygi
def ofS (s:Sh)(x y:Int):Int×Int×Bool :=
 if a1g s=0/\a1f x y=true/\onS s (c0y s x) (c0z s y)=true then(c0y s x,c0z s y,true)else(0,0,false)
theorem a8d {s:Sh}(hr:a1g s=r)(w:World)(f0:fits s.ax)(f1:fits s.ay):
 Calls prog 22 #[shV s] w λe w'=>e= .returned (.int .i64 r)/\Below w.heap.size w w':=by
 have h:=c8d s w f0 f1;rw[hr]at h;exact h
theorem d5r (s:Sh)(x y:Int)(w:World)(f0:fits s.ax)(f1:fits s.ay):
 Calls prog 62 #[shV s,.agg #[.int .i64 x,.int .i64 y]] w λe w'=>e= .returned (.tuple #[.int .i64 (ofS s x y).1,.int .i64 (ofS s x y).2.1,.bool (ofS s x y).2.2])/\Below w.heap.size w w':=by
 by_cases hc:a1g s=0
 ·have hs:=a4h hc
  obtain⟨b1,h1⟩:=zE (a1f x y);obtain⟨i,hi⟩:=zE (c0y s x);obtain⟨j,hj⟩:=zE (c0z s y);obtain⟨b2,h2⟩:=zE (onS s i j);have hr:ofS s x y=if b1=true/\b2=true then(i,j,true)else(0,0,false):=by
   unfold ofS;simp only[hc,h1,hi,hj,h2,true_and]
  rw[hr];clear hr;replace hc:=Lib.hid hc
  cases b1 with
  |false =>
   replace h1:=Lib.hid h1;replace hi:=Lib.hid hi;replace hj:=Lib.hid hj;obtain⟨ax,ay,st,W,H,G⟩:=s;clear h2;have hre:(if false=true/\b2=true then(i,j,true)else(0,0,false))=((0,0,false):Int×Int×Bool):=by simp
   rw[hre];clear hre;go_enter func62,ntmps62;go_wp2_with (first|(go_at_call 22;refine(a8d hc.out _ f0 f1).mono ?_;rintro e w'⟨rfl,hb_⟩;obtain⟨p,rfl⟩:=a0b hb_;clear hb_)|(go_at_call 60;refine(a8c h1.out _).mono ?_;rintro e w'⟨rfl,hb_⟩;obtain⟨p,rfl⟩:=a0b hb_;clear hb_));exact yhw
  |true =>
   obtain⟨⟨x0,x1⟩,y0,y1⟩:=a2i.1 h1;replace h1:=Lib.hid h1;replace hi:=Lib.hid hi;replace hj:=Lib.hid hj;replace h2:=Lib.hid h2;obtain⟨ax,ay,st,W,H,G⟩:=s
   cases b2 <;>
   ·go_enter func62,ntmps62
    go_wp2_with (first|(go_at_call 22;refine(a8d hc.out _ f0 f1).mono ?_;rintro e w'⟨rfl,hb_⟩;obtain⟨p,rfl⟩:=a0b hb_;clear hb_)|(go_at_call 60;refine(a8c h1.out _).mono ?_;rintro e w'⟨rfl,hb_⟩;obtain⟨p,rfl⟩:=a0b hb_;clear hb_)|(go_at_call 83;refine(c8e ⟨ax,ay,st,W,H,G⟩ x y i j _ hi.out hj.out hs oM oM oM oM).mono ?_;rintro e w'⟨rfl,hb_⟩;obtain⟨p,rfl⟩:=a0b hb_;clear hb_)|(go_at_call 67;refine(b4b ⟨ax,ay,st,W,H,G⟩ i j _ _ h2.out hs).mono ?_;rintro e w'⟨rfl,hb_⟩;obtain⟨p,rfl⟩:=a0b hb_;clear hb_));first
     |exact bodyPost_ret (v:= .tuple #[.int .i64 0,.int .i64 0,.bool false]) (by simp[results,results62,go_sem]) rfl ⟨rfl,zC⟩
     |skip
    all_goals
     first|with_reducible refine a0e zM zM ?_|with_reducible refine a0g zM zM ?_
     repeat(first|go_big_quiet_step (fail)|quiet_step (fail))
     refine wpQuiet_nil ?_;intro _ hw_;obtain⟨p,hw_⟩:=hw_;subst hw_;go_wp2_with fail;exact bodyPost_ret (v:= .tuple #[.int .i64 i,.int .i64 j,.bool true]) (by simp[results,results62,go_sem]) rfl ⟨rfl,zC⟩
 ·have hr:ofS s x y=(0,0,false):=by unfold ofS;rw[if_neg (λh=>hc h.1)]
  rw[hr];clear hr;obtain⟨c,hcc⟩:=zE (a1g s);rw[hcc]at hc;replace hcc:=Lib.hid hcc;obtain⟨ax,ay,st,W,H,G⟩:=s;go_enter func62,ntmps62;go_wp2_with (go_at_call 22;refine(a8d hcc.out _ f0 f1).mono ?_;rintro e w'⟨rfl,hb_⟩;obtain⟨p,rfl⟩:=a0b hb_;clear hb_);exact yhw
end
section
open Go.RowKit Go.Shelf
attribute [local go_sem] Oper.semAt_some
attribute [local go_sem ↓] Go.wp_at_zero Go.wp_at_succ
theorem a0s {w w':World}(h:Below w.heap.size w w'):w.grownBy w' none:=⟨h.os,h.tape,h.output,h.size,λk hk _=>h.block k hk⟩
theorem a1e {W W':World}{base:Nat}{e:TypeId}{size:Nat}{v:Value}{k:Nat}{xs:List Value}(h:W.ownsRow base e size v k xs)(hb:Below W.heap.size W W'):W'.ownsRow base e size v k xs:=a0r h (a0s hb) (λr e=>by cases e)
end
section
open Go.RowKit Go.Shelf Go.Maps
attribute [local go_sem] Oper.semAt_some
attribute [local go_sem ↓] Go.wp_at_zero Go.wp_at_succ
theorem b5r (w:World):(zeroValue 3).run prog w= .ok (.int .i64 0) w:=by kernel_rfl
end
section
open Go.RowKit Go.Shelf Go.Sort Go.Lib
attribute [local go_sem] Oper.semAt_some
variable{a b:Int}
def d5d (p q:a0m):Int:=if compareInt p.2 q.2=0 then compareInt p.1 q.1 else compareInt p.2 q.2
theorem c4d:compareInt a b<0↔a<b:=by
 unfold compareInt;split
 ·simp;assumption
 ·exact yjs
theorem c4e:compareInt a b=0↔a=b:=by
 unfold compareInt;split
 ·simp;omega
 ·exact yjs
def ltS (p q:a0m):Bool:=decide (p.2<q.2)||(decide (p.2=q.2)&&decide (p.1<q.1))
theorem a8e (p q:a0m):ltOf d5d p q=ltS p q:=by
 unfold ltOf d5d ltS;by_cases h:p.2=q.2
 ·rw[if_pos (c4e.2 h)]
  simp[h,c4d]
 ·rw[if_neg (λe=>h (c4e.1 e))]
  simp[h,c4d]
theorem e1a:SWO (ltOf d5d) where
 irrefl x:=by rw[a8e];simp[ltS]
 trans x y z h1 h2:=by rw[a8e]at *;simp[ltS]at *;omega
 ntrans x y z h1 h2:=by rw[a8e]at *;simp[ltS]at *;omega
theorem a7b {P:Program}{id:Nat}{Q:Exit->Act->World->Prop}{a:Act}{w:World}{l:List Oper}(n:Nat)(hm:P.follows .mixedOrders=true)(hB:Region.lexTailB .any l.toArray n=true)
 (h:wpQuiet P l.toArray (λw'=>∃p:GrownBy,w'=grow (w.drewN p.n) p.os) (λa'=>∀w',(∃p:GrownBy,w'=grow (w.drewN p.n) p.os)->wpList P l.toArray Q (l.drop n) a' w') (l.take n) a):(Code.region id l.toArray true).wp P Q a w :=
 a4p n hm hB ⟨⟨1,#[]⟩,by rw[grow_empty];rfl⟩ h
theorem b7v (x y:Int)(r:Int)(hr:compareInt x y=r)(w:World)(n:Nat)(os:Array Obj):
 Calls prog 105 #[.int .i64 x,.int .i64 y] (grow (w.drewN n) os) λe w''=>e= .returned (.int .i64 r)/\∃p:GrownBy,w''=grow (w.drewN p.n) p.os :=
 (Go.Proofs.Tryz.cmp_Compare_int x y _).mono λ_ _ ⟨he,hw⟩=>⟨by rw[he,hr],⟨n,os⟩,by first|exact hw|exact hw.symm⟩
theorem d1u (p q:a0m)(w:World):
 Calls prog 125 #[a4q p,a4q q] w λe w'=>e= .returned (.int .i64 (d5d p q))/\∃m os',w'=grow (w.drewN m) os':=by
 obtain⟨px,py⟩:=p;obtain⟨qx,qy⟩:=q;obtain⟨r,hr⟩:=zE (d5d (px,py) (qx,qy));rw[hr];unfold d5d at hr;simp only at hr;obtain⟨c1,h1⟩:=zE (compareInt py qy);obtain⟨c2,h2⟩:=zE (compareInt px qx);rw[h1,h2]at hr;replace h1:=Lib.hid h1;replace h2:=Lib.hid h2;replace hr:=Lib.hid hr;go_enter func125,ntmps125;go_wp2_with fail;obtain⟨W,hW⟩:=zE ((w.alloc (.cells #[.int .i64 px,.int .i64 py] 122)).alloc (.cells #[.int .i64 qx,.int .i64 qy] 122));have k1:=(Blk.new w #[.int .i64 px,.int .i64 py] 122).alloc (.cells #[.int .i64 qx,.int .i64 qy] 122);have k2:=Blk.new (w.alloc (.cells #[.int .i64 px,.int .i64 py] 122)) #[.int .i64 qx,.int .i64 qy] 122;simp only[World.size_alloc]at k2;rw[hW]at k1 k2 ⊢;have f0:=λn os=>cell_grown (a:=⟨w.heap.size,0,none⟩) k1.lt (k1.cell 0) n os
 have f1:=λn os=>cell_grown (a:=⟨w.heap.size,1,none⟩) k1.lt (k1.cell 1) n os
 have f2:=λn os=>cell_grown (a:=⟨w.heap.size+1,0,none⟩) k2.lt (k2.cell 0) n os
 have f3:=λn os=>cell_grown (a:=⟨w.heap.size+1,1,none⟩) k2.lt (k2.cell 1) n os
 simp at f0 f1 f2 f3;replace hW:=Lib.hid hW;refine a7b 10 zM zM ?_;simp only[zT];repeat(first|go_big_quiet_step ((go_at_call 105;exact b7v _ _ _ (by first|with_reducible exact h1.out|with_reducible exact h2.out) _ _ _))|quiet_step ((go_at_call 105;exact b7v _ _ _ (by first|with_reducible exact h1.out|with_reducible exact h2.out) _ _ _)))
 refine wpQuiet_nil ?_;intro X hw_;obtain⟨⟨nq,osq⟩,hw_⟩:=hw_;replace hw_:=Lib.hid hw_;clear f0 f1 f2 f3 k1 k2;go_wp2_with (go_at_call 104;refine(c7v _ _ _ hr.out _ _ vM vM).mono ?_;rintro e w'⟨rfl,rfl⟩);go_ret;refine⟨rfl,nq,#[Obj.cells #[.int .i64 px,.int .i64 py] 122]++ #[Obj.cells #[.int .i64 qx,.int .i64 qy] 122]++osq++ #[Obj.cells #[.int .i64 c1,.int .i64 c2] 3],?_⟩;rw[hw_.out,<-hW.out];simp only[alloc_eq_grow,grow_grow];show grow (grow (w.drewN nq) _) _=_;rw[grow_grow,Array.append_assoc,Array.append_assoc,Array.append_assoc]
theorem d1v (blk off size:Nat)(w:World):CmpLays prog 125 #[] a5u 2 d5d blk off size w:=λ_ _ _ _ x y=>d1u x y _
theorem d7t :∀(ss:List a0m) (j:Nat),j<ss.length*2->(ss.flatMap a5u)[j]? =some ((a5u ss.toArray[j / 2]!)[j % 2]!)
 |[],j,h=>by simp at h
 |p::ss,0,_=>by simp
 |p::ss,1,_=>by simp
 |p::ss,j+2,h=>by
  have ih:=d7t ss j (by simp at h;omega);have e1:(j+2) / 2=j / 2+1:=oM;have e2:(j+2) % 2=j % 2:=oM;rw[e1,e2];have hl:j / 2<ss.length:=by simp at h;omega
  have e3:(p::ss).toArray[j / 2+1]! =ss.toArray[j / 2]! :=by
   rw[getElem!_pos _ _ (by simpa using hl),getElem!_pos _ _ (by simpa using hl)];simp
  rw[e3,<-ih];simp[List.flatMap_cons]
def RowS (n₀:Nat)(W:World)(v:Value)(ss:List a0m):Prop :=
 (v= .slice none 0 0/\ss=[])\/∃g cap,v= .slice (some ⟨g,0,none⟩) ss.length cap/\n₀<=g/\g<W.heap.size/\∀j,(h:j<ss.length)->W.cell? ⟨g,j*2,none⟩=some (.int .i64 ss[j].1)/\W.cell? ⟨g,j*2+1,none⟩=some (.int .i64 ss[j].2)
def leS (x y:a0m):Bool:= !ltS y x
def a2o (en:List (a0m×Int)):List a0m:=(en.map (·.1)).mergeSort leS
theorem b4c {en:List (a0m×Int)}{ss:List a0m}(hn:(en.map (·.1)).Nodup)(h1:ss.Nodup)(h2:∀p,p∈ss↔p∈en.map (·.1)):ss.Perm (a2o en) :=
 ((List.perm_ext_iff_of_nodup h1 hn).2 h2).trans (List.mergeSort_perm _ _).symm
theorem b7w (a b c:a0m)(h1:leS a b=true)(h2:leS b c=true):leS a c=true:=by simp[leS,ltS]at *;omega
theorem b7x (a b:a0m):(leS a b||leS b a)=true:=by simp[leS,ltS];omega
theorem d1w (a b:a0m)(h1:leS a b=true)(h2:leS b a=true):a=b:=by
 simp[leS,ltS]at h1 h2;exact Prod.ext oM oM
theorem b4d {en:List (a0m×Int)}{d:List a0m}(hp:d.Perm (a2o en))(hs:d.Pairwise (λa b=>leS a b=true)):d=a2o en :=
 List.Perm.eq_of_pairwise (le:=λa b=>leS a b=true) (λa b _ _=>d1w a b) hs (List.pairwise_mergeSort b7w b7x _) hp
theorem a2v (en:List (a0m×Int)):(a2o en).length=en.length:=by unfold a2o;rw[List.length_mergeSort,List.length_map]
theorem b7y (base:Nat)(v:Value)(ss:List a0m)(en:List (a0m×Int))(w:World)(hrow:w.ownsRow base 122 2 v ss.length (ss.flatMap a5u))(hnn:ss≠[])(hp:ss.Perm (a2o en))(hlen:ss.length<=4294967296):
 Calls prog 161 #[v,.func (.func 125) #[] #[]] w λe w'=>e= .returned (.tuple #[])/\RowS base w' v (a2o en)/\Below base w w':=by
 have hl0:0<ss.length:=List.length_pos_iff.2 hnn;rcases hrow.2 with⟨_,h0⟩|⟨g,cap,cur,rfl,hbase,hgb,hr1,hr2,hr3,hr4⟩
 ·omega
 have hg:g<w.heap.size:=(Array.getElem?_eq_some_iff.1 hgb).1;have hH:HoldsK a5u 2 w g 0 ss.toArray:=by
  intro j hj;rw[size_flatK,List.size_toArray]at hj;refine⟨?_,hrow.frozenAt (0+j)⟩;rw[get_flatK _ _ _ _ (by simpa using hj),Nat.zero_add];exact(hrow.cellAt j oM).trans (d7t ss j hj)
 have eg:∀args w,(callFunc 125 args).run prog w= .ok (.enter 125 args) w:=enters_of func125 zM rfl;have hcon:=AnyQ.slices_SortFunc Go.Proofs.Tryz.sortSpot 2 isAgg122 sizeOf122 a5u (λ_=>rfl) (λx v hv=>by simp at hv;rcases hv with rfl|rfl <;> rfl) d5d e1a 125 #[] g 0 cap ss.toArray w eg (d1v g 0 ss.toArray.size w) hH hg uM;change Calls prog 161 _ _ _ at hcon;rw[List.size_toArray]at hcon;refine hcon.mono ?_;rintro e w'⟨rfl,d',n,os,hperm,hsort,rfl⟩;obtain⟨hsz,-,hpm⟩:=hperm;have hd:d'.toList=a2o en:=by
  refine b4d ?_ ?_
  ·have h1:d'.extract 0 ss.length=d':=by
    have:d'.size=ss.length:=by rw[hsz];simp
    rw[<-this];exact Array.extract_size
   have h2:ss.toArray.extract 0 ss.length=ss.toArray:=by
    have:ss.toArray.size=ss.length:=by simp
    rw[<-this];exact Array.extract_size
   rw[h1,h2]at hpm;exact hpm.trans hp
  ·rw[List.pairwise_iff_getElem]
   intro i j hi hj hij;have hj':j<d'.size:=by simpa using hj
   have hs:=hsort i j (Nat.zero_le _) hij (by rw[hsz]at hj';simpa using hj');rw[getElem!_pos d' j hj',getElem!_pos d' i oM,a8e]at hs;simp[leS,hs]
 have hH2:=holdsK_sortWorldK_c a5u 2 w g 0 ss.toArray d' n os hH hg (by rw[hsz]);refine⟨rfl,.inr ⟨g,cap,?_,hbase,?_,?_⟩,?_⟩
 ·rw[a2v]
  have:=hp.length_eq;rw[a2v]at this;rw[this]
 ·exact Nat.lt_of_lt_of_le hg (size_sortWorldK_c a5u 2 w g 0 n d' os)
 ·intro j hj
  have hjd:j<d'.size:=by rw[<-Array.length_toList,hd];exact hj
  have c0:=(hH2.cell hjd (c:=0) oM).1;have c1:=(hH2.cell hjd (c:=1) oM).1;have he:d'[j]! =(a2o en)[j]:=by
   rw[getElem!_pos d' j hjd];simp only[<-hd];rfl
  rw[he]at c0 c1;simp only[Nat.zero_add,Nat.add_zero]at c0 c1;exact⟨c0,c1⟩
 ·refine(zR base w).grown (row:=some g) ⟨rfl,rfl,rfl,size_sortWorldK_c a5u 2 w g 0 n d' os,λk hk hne=> ?_⟩ ?_ (λk e=>by cases e;exact hbase)
  ·unfold sortWorldK
   rw[heap_grow_old _ _ (by rw[size_putRowK];exact hk)];have:g≠k:=λe=>hne (by rw[e])
   simp[putRowK,putRow,mapBlock,Sort.ahead,Array.getElem?_modify,this]
  ·exact Nat.le_trans hbase (Nat.le_of_lt hg)
end
end Go.Proofs.YtfocdbjceedagaaGreatDoor
