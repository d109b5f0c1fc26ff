/-
  Parts.
-/
import Derived.Test.YtfocdbjceedagaaGreatDoorZah
import Derived.Deep.Slices
import Derived.Lib.Mul64
import Derived.Laws.Bits64b
import Derived.IntWalk
import Derived.Laws.ResultCell
set_option linter.unusedVariables false
set_option linter.unusedSimpArgs false
set_option maxHeartbeats 4000000
set_option maxRecDepth 100000
namespace Go.Proofs.YtfocdbjceedagaaGreatDoor
open Tryz
section
open Go.RowKit Go.Shelf
attribute [local go_sem] Oper.semAt_some
abbrev encB (l:List UInt8):List Value:=l.map fun b=> .int .u8 (b.toNat:Int)
structure OB (w:World)(B:Nat)(v:Value)(l:List UInt8)(W:World):Prop where
 row:W.ownsRow B 5 1 v l.length (encB l)
 below:Below w.heap.size w W
 lb:B≤W.heap.size
 wb:w.heap.size≤B
section
variable {w W W':World}{B:Nat}{v:Value}{l:List UInt8}
theorem OB.grown (h:OB w B v l W)(hg:W.grownBy W' none):OB w B v l W' :=
 ⟨by
  refine h.row.kept hg ?_
  rcases h.row.2 with ⟨rfl,_⟩|⟨g,cap,cur,rfl,_⟩
  ·exact .inl rfl
  ·exact .inr (fun e=>by cases e),h.below.grown hg h.below.size (fun k e=>by cases e),Nat.le_trans h.lb hg.size,h.wb⟩
theorem OB.alloc (h:OB w B v l W)(o:Obj):OB w B v l (W.alloc o):=h.grown (World.grownBy_alloc W o none)
theorem OB.up (h:OB w B v l W)(hb:Below W.heap.size W W'):OB w B v l W':=h.grown (grownBy_of_below hb)
end
end
section
open Go.RowKit Go.Shelf
attribute [local go_sem] Oper.semAt_some
attribute [local go_sem ↓] Go.wp_at_zero Go.wp_at_succ
def digB (n:Nat):UInt8:=(48+n % 10).toUInt8
def FDec (n m r:Nat)(txt:ByteArray)(i:Nat)(v:Value)(w:World):Prop :=
 match i with
 |0=>v= .int .i64 (n:Nat)
 |1=>v= .int .i64 (m:Nat)
 |2=>v= .string txt
 |3=>v= .int .i64 (n:Nat)
 |4=>v= .int .i64 (r:Nat)
 |5=>v= .int .i64 (48+(r:Nat))
 |6=>v= .int .u8 (48+(r:Nat))
 |7=>∃L,v= .slice (some ⟨L,0,none⟩) 1 1∧Blk w L #[.int .u8 (48+(r:Nat))] 5
 |8=>v= .string ⟨#[digB n]⟩
 |_=>False
theorem FDec.kept {n m r:Nat}{txt:ByteArray}{i:Nat}{v:Value}{w w':World}(h:FDec n m r txt i v w)(hg:Below w.heap.size w w'):FDec n m r txt i v w':=by
 unfold FDec at *
 split at h
 all_goals first|exact h|(obtain⟨L,h1,h2⟩:=h;exact⟨L,h1,h2.below hg h2.lt⟩)
theorem decDigits_len:∀(k n:Nat),n<10 ^ (k+1)→(Lib.decDigits n).length≤k+1
 |0,n,h=>by
  rw[Lib.decDigits,dif_pos (by simpa using h)]
  simp
 |k+1,n,h=>by
  rw[Lib.decDigits]
  split
  ·simp
  ·have h2:=decDigits_len k (n / 10) (by rw[Nat.pow_succ] at h;omega)
   rw[List.length_append]
   simp
   omega
def txtN (n:Nat):ByteArray:=⟨(Lib.decDigits n).toArray⟩
theorem txtN_size (n:Nat):(txtN n).size=(Lib.decDigits n).length:=by
 show (Lib.decDigits n).toArray.size=_
 simp
theorem txtN_digs (n:Nat):Digs (txtN n):=by
 have h:∀k n,n<k→∀c∈Lib.decDigits n,48≤c.toNat∧c.toNat≤57:=by
  intro k
  induction k with
  |zero=>intro n h;omega
  |succ k ih =>
   intro n h c hc
   rw[Lib.decDigits] at hc
   have hd:∀m,m<10→48≤(UInt8.ofNat (48+m)).toNat∧(UInt8.ofNat (48+m)).toNat≤57:=fun m hm=>by
    rw[UInt8.toNat_ofNat']
    omega
   split at hc
   ·rename_i hn
    rw[List.mem_singleton.1 hc]
    exact hd n hn
   ·rcases List.mem_append.1 hc with hc|hc
    ·exact ih (n / 10) (by omega) c hc
    ·rw[List.mem_singleton.1 hc]
     exact hd _ (Nat.mod_lt _ (by omega))
 intro i hi
 have hl:i<(Lib.decDigits n).length:=by rw[←txtN_size];exact hi
 exact h (n+1) n (by omega) _ (List.getElem_mem hl)
end
end Go.Proofs.YtfocdbjceedagaaGreatDoor
namespace Go
open Go.RowKit Go.Shelf
theorem World.setCell_id (w:World)(b o:Nat)(v:Value)(h:w.cell? ⟨b,o,none⟩=some v):w.setCell ⟨b,o,none⟩ v=w:=by
 obtain⟨heap,tape,drawn,os,output⟩:=w
 unfold World.setCell
 simp only[World.mk.injEq,and_true]
 apply Array.ext_getElem?
 intro i
 simp only[Array.getElem?_modify]
 by_cases hb:b=i
 ·subst hb
  unfold World.cell? at h
  simp only[if_true]
  cases hx:heap[b]? with
  |none=>rfl
  |some x =>
   rw[show ({ heap:=heap,tape:=tape,drawn:=drawn,os:=os,output:=output }:World).heap[b]? =some x from hx] at h
   cases x <;> try rfl
   rename_i c t f
   simp at h ⊢
   have h':c[o]? =some v:=h
   obtain⟨hl,hv⟩:=Array.getElem?_eq_some_iff.1 h'
   apply Array.ext_getElem?
   intro j
   rw[Array.getElem?_setIfInBounds]
   split
   ·rename_i e;subst e;exact h'.symm
   ·rfl
 ·simp[hb]
end Go
namespace Go.Proofs.YtfocdbjceedagaaGreatDoor
open Go.RowKit Go.Shelf
attribute [local go_sem] Oper.semAt_some
def Ints (n₀:Nat)(W:World)(sv:Value)(xs:List Int):Prop :=
 ∃a cap,sv= .slice a xs.length cap∧∀j,(h:j<xs.length)→∃b off,a=some ⟨b,off,none⟩∧b<n₀∧fits xs[j]∧W.cell? ⟨b,off+j,none⟩=some (.int .i64 xs[j])
theorem Ints.below {n₀:Nat}{A B:World}(h:Below n₀ A B){sv:Value}{xs:List Int}:Ints n₀ A sv xs→Ints n₀ B sv xs
 |⟨a,cap,e,f⟩=>⟨a,cap,e,fun j hj=>by
  obtain⟨b,off,h1,h2,h3,h4⟩:=f j hj
  exact⟨b,off,h1,h2,h3,(h.cell (p:=⟨b,off+j,none⟩) h2).trans h4⟩⟩
theorem Ints.up {n₀:Nat}{A B:World}{sv:Value}{xs:List Int}(h:Ints n₀ A sv xs)(hb:Below n₀ A B)(hn:n₀≤B.heap.size):Ints B.heap.size B sv xs:=by
 obtain⟨a,cap,e,f⟩:=h.below hb
 exact⟨a,cap,e,fun j hj=>by
  obtain⟨b,off,h1,h2,h3⟩:=f j hj
  exact⟨b,off,h1,by omega,h3⟩⟩
def nextF (xs:List Int)(j:Nat)(m:Int):Int:=xs.getD j 0 % m
theorem nextF_in (xs:List Int)(j:Nat){m:Int}(h:1≤m):0≤nextF xs j m∧nextF xs j m<m:=⟨Int.emod_nonneg _ (by omega),Int.emod_lt_of_pos _ (by omega)⟩
theorem next_any (n₀ D j:Nat)(xs:List Int)(sv:Value)(m v:Int)(w:World)(hv:nextF xs j m=v)(hm1:1≤m)(hm2:m≤4611686018427387904)(hD:n₀≤D)(hI:Ints n₀ w sv xs)(hB:Blk w D #[sv,.int .i64 (min j xs.length:Nat)] 137)(hk:j≤1000) :
 Calls Tryz.prog 73 #[.pointer (some ⟨D,0,none⟩),.int .i64 m] w fun e w'=>∃p,e= .returned (.int .i64 v)∧w'=(w.setCell ⟨D,1,none⟩ (.int .i64 (min (j+1) xs.length:Nat))).growBy p:=by
 subst hv
 by_cases hlt:j<xs.length
 ·rw[show min j xs.length=j from by omega] at hB
  rw[show min (j+1) xs.length=j+1 from by omega]
  have c0:w.cell? ⟨D,0,none⟩=some sv:=hB.cell 0
  have c1:w.cell? ⟨D,1,none⟩=some (.int .i64 (j:Nat)):=hB.cell 1
  have f1:=hB.frozen 1
  obtain⟨a,cap,rfl,hc⟩:=hI
  obtain⟨b,off,rfl,hb,fx,cx⟩:=hc j hlt
  have hx:nextF xs j m=xs[j] % m:=by unfold nextF;rw[List.getD_eq_getElem?_getD,List.getElem?_eq_getElem hlt];rfl
  rw[hx]
  obtain⟨x,hxx⟩:∃x,xs[j]=x:=⟨_,rfl⟩
  rw[hxx] at fx cx ⊢
  have hbD:¬b=D:=by omega
  have hDb:¬D=b:=by omega
  have hlt':(j:Int)<(xs.length:Int):=by omega
  clear hc hxx hx
  go_enter Tryz.func73,Tryz.ntmps73
  go_wp2_with fail
  first|with_reducible refine wp_region_grow2 (by kernel_rfl) (by kernel_rfl) ?_|with_reducible refine wp_region_grow (by kernel_rfl) (by kernel_rfl) ?_
  repeat (first|go_big_quiet_step (fail)|quiet_step (fail))
  refine wpQuiet_nil ?_
  intro _ hw_
  obtain⟨p,hw_⟩:=hw_
  subst hw_
  go_wp2_with fail
  first|with_reducible refine wp_region_grow2 (by kernel_rfl) (by kernel_rfl) ?_|with_reducible refine wp_region_grow (by kernel_rfl) (by kernel_rfl) ?_
  repeat (first|go_big_quiet_step ((go_at_call 77;exact Calls.grow_of_same (mod_any _ _ _ fx hm1 hm2)))|quiet_step ((go_at_call 77;exact Calls.grow_of_same (mod_any _ _ _ fx hm1 hm2))))
  refine wpQuiet_nil ?_
  intro _ hw_
  obtain⟨p,hw_⟩:=hw_
  subst hw_
  go_wp2_with fail
  go_ret
  exact⟨_,rfl,rfl⟩
 ·rw[show min j xs.length=xs.length from by omega] at hB
  rw[show min (j+1) xs.length=xs.length from by omega]
  have c0:w.cell? ⟨D,0,none⟩=some sv:=hB.cell 0
  have c1:w.cell? ⟨D,1,none⟩=some (.int .i64 (xs.length:Nat)):=hB.cell 1
  have f1:=hB.frozen 1
  have hid:=World.setCell_id w D 1 _ c1
  have hz:nextF xs j m=0:=by unfold nextF;rw[List.getD_eq_getElem?_getD,List.getElem?_eq_none (by omega)];simp
  rw[hz]
  have hge':¬(xs.length:Int)<(xs.length:Int):=by omega
  obtain⟨a,cap,rfl,-⟩:=hI
  clear hz
  go_enter Tryz.func73,Tryz.ntmps73
  go_wp2_with fail
  first|with_reducible refine wp_region_grow2 (by kernel_rfl) (by kernel_rfl) ?_|with_reducible refine wp_region_grow (by kernel_rfl) (by kernel_rfl) ?_
  repeat (first|go_big_quiet_step (fail)|quiet_step (fail))
  refine wpQuiet_nil ?_
  intro _ hw_
  obtain⟨p,hw_⟩:=hw_
  subst hw_
  go_wp2_with fail
  go_ret
  exact⟨_,rfl,by rw[hid]⟩
theorem Below.of_grown {n₀:Nat}{W W':World}{row:Option Nat}(hg:W.grownBy W' row)(hn:n₀≤W.heap.size)(hr:∀r,row=some r→n₀≤r):Below n₀ W W' :=
 ⟨hg.os,hg.tape,hg.output,hg.size,fun i hi=>hg.block i (by omega) (fun e=>by have:=hr i e.symm;omega)⟩
structure MW (n₀:Nat)(w W:World)(sv:Value)(xs:List Int)(j:Nat):Prop where
 bR:Blk W n₀ #[.int .i64 0,.int .i64 0,.int .i64 0,.int .i64 0,.int .i64 0,.int .i64 0] 28
 bD:Blk W (n₀+1) #[sv,.int .i64 (min j xs.length:Nat)] 137
 below:Below n₀ w W
 ints:Ints n₀ W sv xs
theorem MW.kept {n₀:Nat}{w W W':World}{sv:Value}{xs:List Int}{k:Nat}{row:Option Nat}(h:MW n₀ w W sv xs k)(hg:W.grownBy W' row)(hr:∀r,row=some r→n₀+1<r):MW n₀ w W' sv xs k:=by
 have hlt:=h.bR.lt
 have hb:Below n₀ W W':=Below.of_grown hg (by omega) (fun r e=>by have:=hr r e;omega)
 exact⟨h.bR.kept hg (fun e=>by have:=hr _ e;omega),h.bD.kept hg (fun e=>by have:=hr _ e;omega),h.below.trans hb,h.ints.below hb⟩
theorem setCell_grown (W:World)(b i:Nat)(v:Value)(p:Growth):W.grownBy ((W.setCell ⟨b,i,none⟩ v).growBy p) (some b):=by
 refine⟨rfl,rfl,rfl,by simp,fun k hk hne=> ?_⟩
 rw[World.heap_growBy _ _ (by simpa using hk)]
 exact Below.heap_setCell _ _ _ _ (fun e=>hne (by rw[e]))
theorem MW.call {n₀:Nat}{w W:World}{sv:Value}{xs:List Int}{j:Nat}(h:MW n₀ w W sv xs j)(hk:j≤1000)(m v:Int)(hv:nextF xs j m=v)(hm1:1≤m)(hm2:m≤4611686018427387904) :
 Calls Tryz.prog 73 #[.pointer (some ⟨n₀+1,0,none⟩),.int .i64 m] W fun e W'=>e= .returned (.int .i64 v)∧MW n₀ w W' sv xs (j+1)∧W.grownBy W' (some (n₀+1)):=by
 refine (next_any n₀ (n₀+1) j xs sv m v W hv hm1 hm2 (by omega) h.ints h.bD hk).mono ?_
 rintro e W'⟨p,rfl,rfl⟩
 have hlt:=h.bR.lt
 have hb:Below n₀ W ((W.setCell ⟨n₀+1,1,none⟩ (.int .i64 (min (j+1) xs.length:Nat))).growBy p):=Below.of_grown (setCell_grown _ _ _ _ _) (by omega) (fun r e=>by cases e;omega)
 refine⟨rfl,⟨h.bR.kept (setCell_grown _ _ _ _ _) (fun e=>by cases e),?_,h.below.trans hb,h.ints.below hb⟩,setCell_grown _ _ _ _ _⟩
 have:=(h.bD.set 1 (.int .i64 (min (j+1) xs.length:Nat))).grow p
 simpa using this
structure MadeS (s:Sh):Prop where
 x0 : -40≤s.ax
 x1:s.ax≤30
 y0 : -40≤s.ay
 y1:s.ay≤30
 t0:6≤s.st
 t1:s.st≤17
 w0:20≤s.w
 w1:s.w≤40
 h0:15≤s.h
 h1:s.h≤30
 g0:1≤s.g
 g1:s.g≤3
theorem MadeS.check {s:Sh}(h:MadeS s):checkS s=0:=by
 obtain⟨ax,ay,st,W,H,G⟩:=s
 obtain⟨x0,x1,y0,y1,t0,t1,w0,w1,h0,h1,g0,g1⟩:=h
 simp only at x0 x1 y0 y1 t0 t1 w0 w1 h0 h1 g0 g1
 have m1:=Int.mul_le_mul (a:=W) (b:=st) (c:=40) (d:=17) w1 t1 (by omega) (by omega)
 have m2:=Int.mul_le_mul (a:=H) (b:=st) (c:=30) (d:=17) h1 t1 (by omega) (by omega)
 have m3:=Int.mul_nonneg (a:=W) (b:=st) (by omega) (by omega)
 have m4:=Int.mul_nonneg (a:=H) (b:=st) (by omega) (by omega)
 rw[checkS_in ⟨⟨by simp only;omega,by simp only;omega⟩,⟨by simp only;omega,by simp only;omega⟩,⟨by simp only;omega,by simp only;omega⟩,by simp only;omega,by simp only;omega⟩]
 have e1:rightP ax ay=true:=rightP_iff.2 (by omega)
 have e2:rightP (ax+W*st) (ay+H*st)=true:=rightP_iff.2 (by omega)
 simp[e1,e2]
end Go.Proofs.YtfocdbjceedagaaGreatDoor
namespace Go.Proofs.YtfocdbjceedagaaGreatDoor
open Tryz
section
open Go.RowKit Go.Shelf
section
variable {H:Type}{enc:TypeId×Value→H}{P:Program}{W:World}{base:Nat}{sp:Nat→Bool}{hd:Bool}{t e:TypeId}{v:Value}
theorem lit_fits (z:Int)(h:(Lit.int .i64 z).wf=true):fits z:=by
 simp[Lit.wf,IntKind.min,IntKind.max,IntKind.signed,IntKind.bits] at h
 exact⟨by omega,by omega⟩
def DtsA (n₀:Nat)(W:World)(a:Option Addr)(l:List Dt):Prop :=
 ∀j,(h:j<l.length)→∃b off,a=some ⟨b,off,none⟩∧b<n₀∧DtRow W b (off+j*4) l[j]∧(fits l[j].x∧fits l[j].y∧fits l[j].k∧fits l[j].i)
theorem DtsA.below {n₀:Nat}{A B:World}(h:Below n₀ A B){a:Option Addr}{l:List Dt}(r:DtsA n₀ A a l):DtsA n₀ B a l:=fun j hj=>by
 obtain⟨b,off,h1,h2,h3,h4⟩:=r j hj
 exact⟨b,off,h1,h2,h3.below h h2,h4⟩
theorem DtsA.up {n₀ n₁:Nat}(hn:n₀≤n₁){A:World}{a:Option Addr}{l:List Dt}(r:DtsA n₀ A a l):DtsA n₁ A a l:=fun j hj=>by
 obtain⟨b,off,h1,h2,h3,h4⟩:=r j hj
 exact⟨b,off,h1,by omega,h3,h4⟩
instance:Inhabited Dt:=⟨⟨0,0,0,0⟩⟩
end
end
section
open Go Go.RowKit Go.Shelf Go.Lib
attribute [local go_sem] Oper.semAt_some
attribute [local go_sem ↓] Go.wp_at_zero Go.wp_at_succ
abbrev dtE:El Dt:=⟨54,4,encD⟩
theorem dtOk:dtE.Ok:=⟨fun _=>rfl,by decide,fun x u hu=>by
 simp at hu
 rcases hu with rfl|rfl|rfl|rfl <;> rfl⟩
theorem dtIn:dtE.In prog 41:=El.in_of (z:= .agg #[.int .i64 0,.int .i64 0,.int .i64 0,.int .i64 0]) (s:=4) (bytes:=32) underlying41 (by kernel_rfl) rfl (by omega) rfl
abbrev lfE:El Lf:=⟨68,3,fun l=>[.int .i64 l.p,.int .i64 l.k,.int .i64 l.i]⟩
theorem lfOk:lfE.Ok:=⟨fun _=>rfl,by decide,fun x u hu=>by
 simp at hu
 rcases hu with rfl|rfl|rfl <;> rfl⟩
theorem lfIn:lfE.In prog 43:=El.in_of (z:= .agg #[.int .i64 0,.int .i64 0,.int .i64 0]) (s:=3) (bytes:=24) underlying43 (by kernel_rfl) rfl (by omega) rfl
abbrev keE:El Ke:=⟨82,3,fun k=>[.int .i64 k.n,.int .i64 k.p,.string k.c]⟩
theorem keOk:keE.Ok:=⟨fun _=>rfl,by decide,fun x u hu=>by
 simp at hu
 rcases hu with rfl|rfl|rfl <;> rfl⟩
theorem keIn:keE.In prog 42:=El.in_of (z:= .agg #[.int .i64 0,.int .i64 0,.string ⟨#[]⟩]) (s:=3) (bytes:=32) underlying42 (by kernel_rfl) rfl (by omega) rfl
abbrev dtV (d:Dt):Value:= .agg #[.int .i64 d.x,.int .i64 d.y,.int .i64 d.k,.int .i64 d.i]
structure Sm (d:Dt):Prop where
 x0 : -1000000≤d.x
 x1:d.x≤1000000
 y0 : -1000000≤d.y
 y1:d.y≤1000000
instance:Inhabited Lf:=⟨⟨0,0,0⟩⟩
instance:Inhabited Ke:=⟨⟨0,0,⟨#[]⟩⟩⟩
def nearW (g:Int)(a b:Dt):Bool:=(decide (a.k≠b.k)||decide (a.i≠b.i))&&(decide (max (IntKind.i64.wrap (a.x-b.x)) (IntKind.i64.wrap (b.x-a.x))<g)&&decide (max (IntKind.i64.wrap (a.y-b.y)) (IntKind.i64.wrap (b.y-a.y))<g))
theorem nearW_eq {g:Int}{a b:Dt}(ha:Sm a)(hb:Sm b):nearW g a b=nearD g a b:=by
 obtain⟨a0,a1,a2,a3⟩:=ha
 obtain⟨b0,b1,b2,b3⟩:=hb
 unfold nearW nearD
 rw[wrap_in7 (x:=a.x-b.x) (by omega) (by omega),wrap_in7 (x:=b.x-a.x) (by omega) (by omega),wrap_in7 (x:=a.y-b.y) (by omega) (by omega),wrap_in7 (x:=b.y-a.y) (by omega) (by omega)]
theorem near_any30 (a b:Dt)(g:Int)(w:World) :
 Calls prog 88 #[dtV a,dtV b,.int .i64 g] w fun e w'=>e= .returned (.bool (nearW g a b))∧Below w.heap.size w w':=by
 obtain⟨ax,ay,ak,ai⟩:=a
 obtain⟨bx,b_y,bk,bi⟩:=b
 obtain⟨r,hr⟩:∃r,nearW g ⟨ax,ay,ak,ai⟩ ⟨bx,b_y,bk,bi⟩=r:=⟨_,rfl⟩
 rw[hr]
 unfold nearW at hr
 simp only at hr
 obtain⟨u1,e1⟩:∃u,IntKind.i64.wrap (ax-bx)=u:=⟨_,rfl⟩
 obtain⟨u2,e2⟩:∃u,IntKind.i64.wrap (bx-ax)=u:=⟨_,rfl⟩
 obtain⟨u3,e3⟩:∃u,IntKind.i64.wrap (ay-b_y)=u:=⟨_,rfl⟩
 obtain⟨u4,e4⟩:∃u,IntKind.i64.wrap (b_y-ay)=u:=⟨_,rfl⟩
 rw[e1,e2,e3,e4] at hr
 obtain⟨tk,htk⟩:∃t,(!(ak==bk))=t:=⟨_,rfl⟩
 obtain⟨ti,hti⟩:∃t,(!(ai==bi))=t:=⟨_,rfl⟩
 obtain⟨tx,htx⟩:∃t,decide (max u1 u2<g)=t:=⟨_,rfl⟩
 obtain⟨ty,hty⟩:∃t,decide (max u3 u4<g)=t:=⟨_,rfl⟩
 have k1:decide (ak≠bk)=tk:=by rw[←htk];exact Bool.eq_iff_iff.2 (by simp)
 have k2:decide (ai≠bi)=ti:=by rw[←hti];exact Bool.eq_iff_iff.2 (by simp)
 rw[k1,k2,htx,hty] at hr
 clear k1 k2
 replace hr:=Lib.hid hr
 go_enter func88,ntmps88
 go_wp2_with fail
 all_goals (go_ret;refine⟨?_,(by repeat' (first|with_reducible (first|exact zR _ _|exact yR _|assumption|refine zG ?_ ?_ _|refine zA ?_ ?_ _|refine zS ?_ ?_ _|refine zD ?_|refine yA ?_|refine yG ?_|refine yS ?_|refine yD ?_)|omega|(dsimp only;omega)))⟩;have h2:=hr.out;clear hr;first|(simp_all [bne];done)|(cases tk <;> cases ti <;> simp_all [bne]))
def idxZ (o:Option Nat):Int:=match o with|some k=>(k:Nat)|none => -1
theorem idxByFrom_findIdx {α:Type}(p:α→Bool)(d:α):∀(l:List α)(i:Nat),Lib.idxByFrom (fun _ y=>p y) d l i=match l.findIdx? p with|some k=>((i+k:Nat):Int)|none => -1
 |[],i=>rfl
 |y::l,i=>by
  unfold Lib.idxByFrom
  rw[List.findIdx?_cons]
  cases h:p y with
  |true=>simp
  |false =>
   rw[idxByFrom_findIdx p d l (i+1)]
   cases l.findIdx? p with
   |none=>rfl
   |some k=>show ((i+1+k:Nat):Int)=((i+(k+1):Nat):Int);congr 1;omega
theorem idxBy_findIdx {α:Type}(p:α→Bool)(d:α)(l:List α):Lib.idxBy (fun _ y=>p y) l d=idxZ (l.findIdx? p):=by
 unfold Lib.idxBy
 rw[idxByFrom_findIdx]
 cases l.findIdx? p <;> simp[idxZ]
theorem clash2_any (a b:Dt)(g:Int)(A G:Nat)(w:World)(hA:Blk w A #[.int .i64 a.x,.int .i64 a.y,.int .i64 a.k,.int .i64 a.i] 54)(hG:w.cell? ⟨G,0,none⟩=some (.int .i64 g)) :
 Calls prog 87 #[dtV b,.pointer (some ⟨A,0,none⟩),.pointer (some ⟨G,0,none⟩)] w fun e w'=>e= .returned (.bool (nearW g a b))∧Below w.heap.size w w':=by
 have h0:=near_any30 a b g
 obtain⟨ax,ay,ak,ai⟩:=a
 obtain⟨bx,b_y,bk,bi⟩:=b
 obtain⟨r,hr⟩:∃r,nearW g ⟨ax,ay,ak,ai⟩ ⟨bx,b_y,bk,bi⟩=r:=⟨_,rfl⟩
 rw[hr] at h0 ⊢
 clear hr
 have c0:=hA.cell 0
 have c1:=hA.cell 1
 have c2:=hA.cell 2
 have c3:=hA.cell 3
 simp only at c0 c1 c2 c3
 replace c0:w.cell? ⟨A,0,none⟩=some (.int .i64 ax):=c0
 replace c1:w.cell? ⟨A,1,none⟩=some (.int .i64 ay):=c1
 replace c2:w.cell? ⟨A,2,none⟩=some (.int .i64 ak):=c2
 replace c3:w.cell? ⟨A,3,none⟩=some (.int .i64 ai):=c3
 go_enter func87,ntmps87
 go_wp2_with (go_at_call 88;refine (h0 _).mono ?_;rintro e w'⟨rfl,hb_⟩;obtain⟨p,rfl⟩:=grow_of_below hb_;clear hb_)
 go_ret
 exact⟨rfl,(by repeat' (first|with_reducible (first|exact zR _ _|exact yR _|assumption|refine zG ?_ ?_ _|refine zA ?_ ?_ _|refine zS ?_ ?_ _|refine zD ?_|refine yA ?_|refine yG ?_|refine yS ?_|refine yD ?_)|omega|(dsimp only;omega)))⟩
theorem lst_cells {α:Type} [Inhabited α]{E:El α}{W:World}{n0 b off cap:Nat}{l:List α}(h:Lst E n0 W (.slice (some ⟨b,off,none⟩) l.length cap) l)(hlen:∀x,(E.enc x).length=E.s):∀j,j<l.length→∀i v,(E.enc l[j]!)[i]? =some v→W.cell? ⟨b,off+j*E.s+i,none⟩=some v:=by
 intro j hj i v hv
 obtain⟨b',off',cap',e,-,-,hc⟩:=h.some_ (by omega)
 simp only[Value.slice.injEq,Option.some.injEq,Addr.mk.injEq] at e
 obtain⟨⟨rfl,rfl,-⟩,-,-⟩:=e
 have hi:=(List.getElem?_eq_some_iff.1 hv).1
 rw[hlen] at hi
 rw[getElem!_pos l j hj] at hv
 rw[←hv]
 exact hc j hj i hi
theorem lst_lt {α:Type}{E:El α}{W:World}{n0 b off cap:Nat}{l:List α}(h:Lst E n0 W (.slice (some ⟨b,off,none⟩) l.length cap) l)(hl:l≠[]):b<n0:=by
 obtain⟨b',off',cap',e,-,hb,-⟩:=h.some_ (List.length_pos_iff.2 hl)
 simp only[Value.slice.injEq,Option.some.injEq,Addr.mk.injEq] at e
 obtain⟨⟨rfl,rfl,-⟩,-,-⟩:=e
 exact hb
theorem indexDt0 (a:Option Addr)(c:Nat)(fv:Value)(w:World):Calls prog 45 #[.slice a 0 c,fv] w fun e w'=>e= .returned (.int .i64 (-1))∧Below w.heap.size w w':=by
 go_enter func45,ntmps45
 go_wp2_with fail
 refine wp_loop_rounds 1 ?_
 rw[rounds_succ]
 go_wp2_with fail
 go_ret
 exact⟨rfl,(by repeat' (first|with_reducible (first|exact zR _ _|exact yR _|assumption|refine zG ?_ ?_ _|refine zA ?_ ?_ _|refine zS ?_ ?_ _|refine zD ?_|refine yA ?_|refine yG ?_|refine yS ?_|refine yD ?_)|omega|(dsimp only;omega)))⟩
theorem indexLf0 (a:Option Addr)(c:Nat)(fv:Value)(w:World):Calls prog 152 #[.slice a 0 c,fv] w fun e w'=>e= .returned (.int .i64 (-1))∧Below w.heap.size w w':=by
 go_enter func152,ntmps152
 go_wp2_with fail
 refine wp_loop_rounds 1 ?_
 rw[rounds_succ]
 go_wp2_with fail
 go_ret
 exact⟨rfl,(by repeat' (first|with_reducible (first|exact zR _ _|exact yR _|assumption|refine zG ?_ ?_ _|refine zA ?_ ?_ _|refine zS ?_ ?_ _|refine zD ?_|refine yA ?_|refine yG ?_|refine yS ?_|refine yD ?_)|omega|(dsimp only;omega)))⟩
theorem indexDt_any (v:Value)(l:List Dt)(w:World)(h:Lst dtE w.heap.size w v l)(hf:Frm v l.length)(p:Dt→Bool)(g:Nat)(lb:Array Value)(eg:∀args w,(callFunc g args).run prog w= .ok (.enter g args) w)(hp:PredBelow prog g lb (fun x:Dt=> .agg (encD x).toArray) p w) :
 Calls prog 45 #[v,.func (.func g) #[] lb] w fun e w'=>e= .returned (.int .i64 (idxZ (l.findIdx? p)))∧Below w.heap.size w w':=by
 by_cases hl:l=[]
 ·subst hl
  obtain⟨a,c,rfl,-⟩:=h.form
  exact indexDt0 a c _ w
 ·rcases hf with rfl|⟨b,off,cap,rfl⟩
  ·obtain⟨a,c,e,-⟩:=h.form
   simp only[Value.slice.injEq] at e
   exact absurd (List.eq_nil_of_length_eq_zero e.2.1.symm) hl
  ·have hlen:=h.len
   refine (AnyQ.slices_IndexFunc Tryz.dotsIndex 4 isAgg54 sizeOf54 encD (fun _=>rfl) p g lb eg b off l.length cap l w hp (yR _) (by omega) (lst_lt h hl) (lst_cells h (fun _=>rfl))).mono ?_
   rintro e w'⟨rfl,hb⟩
   rw[List.take_length,idxBy_findIdx]
   exact⟨rfl,hb⟩
theorem indexLf_any (v:Value)(l:List Lf)(w:World)(h:Lst lfE w.heap.size w v l)(hf:Frm v l.length)(p:Lf→Bool)(g:Nat)(lb:Array Value)(eg:∀args w,(callFunc g args).run prog w= .ok (.enter g args) w)(hp:PredBelow prog g lb (fun x:Lf=> .agg (lfE.enc x).toArray) p w) :
 Calls prog 152 #[v,.func (.func g) #[] lb] w fun e w'=>e= .returned (.int .i64 (idxZ (l.findIdx? p)))∧Below w.heap.size w w':=by
 by_cases hl:l=[]
 ·subst hl
  obtain⟨a,c,rfl,-⟩:=h.form
  exact indexLf0 a c _ w
 ·rcases hf with rfl|⟨b,off,cap,rfl⟩
  ·obtain⟨a,c,e,-⟩:=h.form
   simp only[Value.slice.injEq] at e
   exact absurd (List.eq_nil_of_length_eq_zero e.2.1.symm) hl
  ·have hlen:=h.len
   refine (AnyQ.slices_IndexFunc Tryz.leftIndex 3 isAgg68 sizeOf68 lfE.enc (fun _=>rfl) p g lb eg b off l.length cap l w hp (yR _) (by omega) (lst_lt h hl) (lst_cells h (fun _=>rfl))).mono ?_
   rintro e w'⟨rfl,hb⟩
   rw[List.take_length,idxBy_findIdx]
   exact⟨rfl,hb⟩
theorem idxZ_ge {α:Type}(p:α→Bool)(l:List α):decide (0≤idxZ (l.findIdx? p))=l.any p:=by
 cases h:l.findIdx? p with
 |none =>
  rw[List.findIdx?_eq_none_iff] at h
  rw[List.any_eq_false.2 (by simpa using h)]
  rfl
 |some k =>
  obtain⟨hk,h1,-⟩:=List.findIdx?_eq_some_iff_getElem.1 h
  rw[List.any_eq_true.2 ⟨_,List.getElem_mem hk,h1⟩]
  show decide ((0:Int)≤(k:Nat))=true
  exact decide_eq_true (by omega)
theorem containsDt_any (v:Value)(l:List Dt)(w:World)(h:Lst dtE w.heap.size w v l)(hf:Frm v l.length)(p:Dt→Bool)(g:Nat)(lb:Array Value)(eg:∀args w,(callFunc g args).run prog w= .ok (.enter g args) w)(hp:PredBelow prog g lb (fun x:Dt=> .agg (encD x).toArray) p w) :
 Calls prog 86 #[v,.func (.func g) #[] lb] w fun e w'=>e= .returned (.bool (l.any p))∧Below w.heap.size w w':=by
 have h0:=indexDt_any v l w h hf p g lb eg hp
 rw[←idxZ_ge]
 obtain⟨r,hr⟩:∃r,idxZ (l.findIdx? p)=r:=⟨_,rfl⟩
 rw[hr] at h0 ⊢
 clear hr hp h
 obtain⟨a,n,c,rfl⟩:∃a n c,v= .slice a n c:=by rcases hf with rfl|⟨b,off,cap,rfl⟩ <;> exact⟨_,_,_,rfl⟩
 clear hf
 go_enter func86,ntmps86
 go_wp2_with (go_at_call 45;refine (h0).mono ?_;rintro e w'⟨rfl,hb_⟩;obtain⟨p,rfl⟩:=grow_of_below hb_;clear hb_)
 go_ret
 exact⟨rfl,(by repeat' (first|with_reducible (first|exact zR _ _|exact yR _|assumption|refine zG ?_ ?_ _|refine zA ?_ ?_ _|refine zS ?_ ?_ _|refine zD ?_|refine yA ?_|refine yG ?_|refine yS ?_|refine yD ?_)|omega|(dsimp only;omega)))⟩
theorem clash1_any (a:Dt)(g:Int)(O G:Nat)(ov:Value)(o:List Dt)(n0:Nat)(w:World)(hO:w.cell? ⟨O,0,none⟩=some ov)(ho:Lst dtE w.heap.size w ov o)(hf:Frm ov o.length)(hG:w.cell? ⟨G,0,none⟩=some (.int .i64 g)) :
 Calls prog 85 #[dtV a,.pointer (some ⟨O,0,none⟩),.pointer (some ⟨G,0,none⟩)] w fun e w'=>e= .returned (.bool (o.any (nearW g a)))∧Below w.heap.size w w':=by
 obtain⟨oa,oc,rfl,-⟩:=ho.form
 obtain⟨ax,ay,ak,ai⟩:=a
 have hb1:Below w.heap.size w (w.alloc (.cells #[.int .i64 ax,.int .i64 ay,.int .i64 ak,.int .i64 ai] 54)):=(zR _ _).alloc (yR _) _
 have h0:=containsDt_any (.slice oa o.length oc) o (w.alloc (.cells #[.int .i64 ax,.int .i64 ay,.int .i64 ak,.int .i64 ai] 54)) (ho.up hb1) hf (nearW g ⟨ax,ay,ak,ai⟩) 87 #[.pointer (some ⟨w.heap.size,0,none⟩),.pointer (some ⟨G,0,none⟩)] (enters_of func87 (by kernel_rfl) rfl)
  (fun W x hb=>(clash2_any ⟨ax,ay,ak,ai⟩ x g w.heap.size G W ((Blk.new w #[.int .i64 ax,.int .i64 ay,.int .i64 ak,.int .i64 ai] 54).below hb (by simp)) ((hb.cell (p:=⟨G,0,none⟩) (by have:=World.block_lt_of_cell? _ _ hG;simp only[World.size_alloc];simp only at this;omega)).trans ((hb1.cell (p:=⟨G,0,none⟩) (World.block_lt_of_cell? _ _ hG)).trans hG))).mono fun _ _ ⟨he,h⟩=>⟨he,hb.trans (h.mono hb.size)⟩)
 obtain⟨r,hr⟩:∃r,o.any (nearW g ⟨ax,ay,ak,ai⟩)=r:=⟨_,rfl⟩
 rw[hr] at h0 ⊢
 clear hr
 go_enter func85,ntmps85
 go_wp2_with (go_at_call 86;refine (h0).mono ?_;rintro e w'⟨rfl,hb_⟩;obtain⟨p,rfl⟩:=grow_of_below hb_;clear hb_)
 go_ret
 exact⟨rfl,(by repeat' (first|with_reducible (first|exact zR _ _|exact yR _|assumption|refine zG ?_ ?_ _|refine zA ?_ ?_ _|refine zS ?_ ?_ _|refine zD ?_|refine yA ?_|refine yG ?_|refine yS ?_|refine yD ?_)|omega|(dsimp only;omega)))⟩
theorem results_row_tmp {P:Program}{fn:Func}{p u:Tmp}{ty:TypeId}(h:fn.results= #[.cell p ty,.tmp u])(tmps:Array Value)(w:World)(g:Nat)(t:TypeId)(cs:Array Value)(fr:Nat×Nat)(d:TypeDesc)
 (hp:tmps.getD p undef= .pointer (some ⟨g,0,none⟩)) (hg:w.heap[g]? =some (.cells cs t fr)) (hu:P.underlying ty=some d) (hd:(match d with | .struct _ | .array _ _=>true|_=>false)=true) (hi:(P.info? ty).map (·.size)=some cs.size) :
 (results fn tmps).run P w= .ok (.tuple #[.agg cs,tmps.getD u undef]) w:=by
 rw[results_cell_tmp h,hp]
 simp[asAddr,run_loadVar_row w g t ty cs fr d hg hu hd hi,Result.andThen]
def clashW (g:Int)(l o:List Dt):Option Dt:=l.find? fun a=>o.any (nearW g a)
def clashR (o:Option Dt):Value:=match o with|some d=> .tuple #[dtV d,.bool true]|none=> .tuple #[dtV ⟨0,0,0,0⟩,.bool false]
theorem find_idx {α:Type}(p:α→Bool)(l:List α):(l.findIdx? p=none∧l.find? p=none)∨∃k,∃h:k<l.length,l.findIdx? p=some k∧l.find? p=some l[k]:=by
 cases h:l.findIdx? p with
 |none =>
  left
  rw[List.findIdx?_eq_none_iff] at h
  exact⟨rfl,List.find?_eq_none.2 (by simpa using h)⟩
 |some k =>
  right
  obtain⟨hk,h1,h2⟩:=List.findIdx?_eq_some_iff_getElem.1 h
  refine⟨k,hk,rfl,?_⟩
  rw[List.find?_eq_some_iff_getElem]
  exact⟨h1,k,hk,rfl,fun j hj=>by simpa using h2 j hj⟩
theorem clash_any (g:Int)(lv ov:Value)(l o:List Dt)(w:World)(hl:Lst dtE w.heap.size w lv l)(hlf:Frm lv l.length)(ho:Lst dtE w.heap.size w ov o)(hof:Frm ov o.length) :
 Calls prog 36 #[lv,ov,.int .i64 g] w fun e w'=>e= .returned (clashR (clashW g l o))∧Below w.heap.size w w':=by
 obtain⟨oa,oc,rfl,-⟩:=ho.form
 obtain⟨la,lc,rfl,-⟩:=hl.form
 obtain⟨W,hW⟩:∃W,((w.alloc (.cells #[.slice oa o.length oc] 41)).alloc (.cells #[.int .i64 g] 3)).alloc (.cells #[.int .i64 0,.int .i64 0,.int .i64 0,.int .i64 0] 54)=W:=⟨_,rfl⟩
 have hb:Below w.heap.size w W:=by rw[←hW];exact (by repeat' (first|with_reducible (first|exact zR _ _|exact yR _|assumption|refine zG ?_ ?_ _|refine zA ?_ ?_ _|refine zS ?_ ?_ _|refine zD ?_|refine yA ?_|refine yG ?_|refine yS ?_|refine yD ?_)|omega|(dsimp only;omega)))
 have kO:Blk W w.heap.size #[.slice oa o.length oc] 41:=by rw[←hW];exact ((Blk.new _ _ _).alloc _).alloc _
 have kG:Blk W (w.heap.size+1) #[.int .i64 g] 3:=by rw[←hW];have:=(Blk.new (w.alloc (.cells #[.slice oa o.length oc] 41)) #[.int .i64 g] 3).alloc (.cells #[.int .i64 0,.int .i64 0,.int .i64 0,.int .i64 0] 54);rwa [World.size_alloc] at this
 have h0:=indexDt_any (.slice la l.length lc) l W (hl.up hb) hlf (fun a=>o.any (nearW g a)) 85 #[.pointer (some ⟨w.heap.size,0,none⟩),.pointer (some ⟨w.heap.size+1,0,none⟩)] (enters_of func85 (by kernel_rfl) rfl)
  (fun X x hx=>(clash1_any x g w.heap.size (w.heap.size+1) (.slice oa o.length oc) o 0 X ((kO.below hx kO.lt).cell 0) ((ho.up hb).up hx) hof ((kG.below hx kG.lt).cell 0)).mono fun _ _ ⟨he,h⟩=>⟨he,hx.trans (h.mono hx.size)⟩)
 have hlW:=hl.up hb
 unfold clashW
 rcases find_idx (fun a=>o.any (nearW g a)) l with ⟨h1,h2⟩|⟨k,hk,h1,h2⟩
 ·rw[h1] at h0
  rw[h2]
  replace h0:Calls _ _ _ _ fun e w'=>e= .returned (.int .i64 (-1))∧Below W.heap.size W w':=h0
  rw[←hW] at h0
  clear h1 h2 hW hb kO kG hlW
  go_enter func36,ntmps36
  go_wp2_with (go_at_call 45;refine (h0).mono ?_;rintro e w'⟨rfl,hb_⟩;obtain⟨p,rfl⟩:=grow_of_below hb_;clear hb_)
  have k2:Blk ((((w.alloc (.cells #[.slice oa o.length oc] 41)).alloc (.cells #[.int .i64 g] 3)).alloc (.cells #[.int .i64 0,.int .i64 0,.int .i64 0,.int .i64 0] 54)).growBy p) (w.heap.size+1+1) #[.int .i64 0,.int .i64 0,.int .i64 0,.int .i64 0] 54:=by have:=(Blk.new ((w.alloc (.cells #[.slice oa o.length oc] 41)).alloc (.cells #[.int .i64 g] 3)) #[.int .i64 0,.int .i64 0,.int .i64 0,.int .i64 0] 54).grow p;simp only[World.size_alloc] at this;exact this
  exact bodyPost_ret (results_row_tmp (by rfl) _ _ _ 54 _ (0,0) _ (by rfl) k2 underlying54 (by rfl) (by kernel_rfl)) rfl ⟨rfl,(by repeat' (first|with_reducible (first|exact zR _ _|exact yR _|assumption|refine zG ?_ ?_ _|refine zA ?_ ?_ _|refine zS ?_ ?_ _|refine zD ?_|refine yA ?_|refine yG ?_|refine yS ?_|refine yD ?_)|omega|(dsimp only;omega)))⟩
 ·rw[h1] at h0
  rw[h2]
  replace h0:Calls _ _ _ _ fun e w'=>e= .returned (.int .i64 (k:Nat))∧Below W.heap.size W w':=h0
  obtain⟨b,off,cap,hv,-,hlb,hc⟩:=hlW.some_ (by omega)
  simp only[Value.slice.injEq,true_and] at hv
  obtain⟨rfl,rfl⟩:=hv
  obtain⟨d,hd⟩:∃d,l[k]=d:=⟨_,rfl⟩
  have hck:=hc k hk
  rw[hd] at hck
  rw[hd]
  obtain⟨dx,dy,dk,di⟩:=d
  have c0:W.cell? ⟨b,off+k*4,none⟩=some (.int .i64 dx):=hck 0 (show 0<4 by decide)
  have c1:W.cell? ⟨b,off+k*4+1,none⟩=some (.int .i64 dy):=hck 1 (show 1<4 by decide)
  have c2:W.cell? ⟨b,off+k*4+2,none⟩=some (.int .i64 dk):=hck 2 (show 2<4 by decide)
  have c3:W.cell? ⟨b,off+k*4+3,none⟩=some (.int .i64 di):=hck 3 (show 3<4 by decide)
  have hkI:(k:Int)<(l.length:Int):=by omega
  have hk0:¬(k:Int)<0:=by omega
  have k2:Blk W (w.heap.size+1+1) #[.int .i64 0,.int .i64 0,.int .i64 0,.int .i64 0] 54:=by rw[←hW];have:=Blk.new ((w.alloc (.cells #[.slice oa o.length oc] 41)).alloc (.cells #[.int .i64 g] 3)) #[.int .i64 0,.int .i64 0,.int .i64 0,.int .i64 0] 54;simp only[World.size_alloc] at this;exact this
  have x0:=k2.cell 0
  have x1:=k2.cell 1
  have x2:=k2.cell 2
  have x3:=k2.cell 3
  have z0:=k2.frozen 0
  have z1:=k2.frozen 1
  have z2:=k2.frozen 2
  have z3:=k2.frozen 3
  replace x0:W.cell? ⟨w.heap.size+1+1,0,none⟩=some (.int .i64 0):=x0
  replace x1:W.cell? ⟨w.heap.size+1+1,1,none⟩=some (.int .i64 0):=x1
  replace x2:W.cell? ⟨w.heap.size+1+1,2,none⟩=some (.int .i64 0):=x2
  replace x3:W.cell? ⟨w.heap.size+1+1,3,none⟩=some (.int .i64 0):=x3
  have kF:=(((k2.set 0 (.int .i64 dx)).set 1 (.int .i64 dy)).set 2 (.int .i64 dk)).set 3 (.int .i64 di)
  clear h1 h2 kO kG hlW hck hc hl ho hd
  go_enter func36,ntmps36
  go_upto_region 1 with fail
  clear hW
  go_wp2_with (go_at_call 45;refine (h0).mono ?_;rintro e w'⟨rfl,hb_⟩;obtain⟨p,rfl⟩:=grow_of_below hb_;clear hb_)
  have hsz:=hb.size
  exact bodyPost_ret (results_row_tmp (by rfl) _ _ _ 54 _ (0,0) _ (by rfl) (kF.grow p) underlying54 (by rfl) (by kernel_rfl)) rfl ⟨rfl,(by repeat' (first|with_reducible (first|exact zR _ _|exact yR _|assumption|refine zG ?_ ?_ _|refine zA ?_ ?_ _|refine zS ?_ ?_ _|refine zD ?_|refine yA ?_|refine yG ?_|refine yS ?_|refine yD ?_)|omega|(dsimp only;omega)))⟩
end
section
open Go Go.RowKit Go.Shelf
attribute [local go_sem] Oper.semAt_some
theorem decode_other (s:ByteArray)(pos:Nat)(h:pos<s.size)(ha:¬(s[pos]'h).toNat<128):128≤(Utf8.decode s pos).1:=by
 have e:s.get! (pos+0)=s[pos]'h:=by
  show s.get! pos=_
  simp[ByteArray.get!,getElem!_pos,h]
  rfl
 unfold Utf8.decode
 simp only[e]
 rw[if_neg ha]
 have hr:128≤Utf8.runeError:=by decide
 repeat' split
 all_goals first|exact hr|(simp only[ge_iff_le,decide_eq_true_eq,Bool.and_eq_true] at *;omega)
theorem run_next_other {P:Program}(w:World)(s:ByteArray)(pos:Nat)(ty:TypeId)(h:pos<s.size) :
 (Instr.next (.pointer (some ⟨w.heap.size,0,none⟩)) true ty).run P (w.iter s pos) =
  .ok (.tuple #[.bool true,.int .i64 pos,.int .i32 (Utf8.decode s pos).1]) (w.iter s (pos+(Utf8.decode s pos).2)):=by
 simp only[Instr.next,getObj,setObj,Sem.run_bind,Sem.run,World.iter_heap,Result.andThen,h,if_true,World.iter_set]
 simp[goInt,Sem.run,World.iter_heap,World.iter_set]
def okB (c:UInt8):Bool:=decide (32≤c.toNat)&&decide (c.toNat≤126)&&decide (c.toNat≠34)
def rightB (s:ByteArray):Bool:=s.data.toList.all okB
theorem rightB_at {s:ByteArray}(h:rightB s=true)(i:Nat)(hi:i<s.size):okB (s[i]'hi)=true:=by
 unfold rightB at h
 rw[List.all_eq_true] at h
 exact h _ (Array.mem_toList_iff.2 (Array.getElem_mem hi))
theorem rightB_of {s:ByteArray}(h:∀i (hi:i<s.size),okB (s[i]'hi)=true):rightB s=true:=by
 unfold rightB
 rw[List.all_eq_true]
 intro c hc
 obtain⟨i,hi,rfl⟩:=List.getElem_of_mem hc
 exact h i (by simpa using hi)
theorem rightB_no {s:ByteArray}(i:Nat)(hi:i<s.size)(h:okB (s[i]'hi)=false):rightB s=false:=by
 cases hr:rightB s with
 |false=>rfl
 |true=>rw[rightB_at hr i hi] at h;cases h
theorem brightAny (s:ByteArray)(hl:s.size≤1000000)(w:World):Calls prog 113 #[.string s] w fun e w'=>e= .returned (.bool (rightB s))∧Below w.heap.size w w':=by
 obtain⟨r,hr⟩:∃r,rightB s=r:=⟨_,rfl⟩
 rw[hr]
 go_enter func113,ntmps113
 go_wp2_with fail
 go_loopw [7] (fun _ W=>∃n:Nat,n≤s.size∧W=w.iter s n∧∀i (hi:i<n) (hs:i<s.size),okB (s[i]'hs)=true) (fun _ W=>iterLeft w.heap.size s W)
 case atStart=>exact⟨0,Nat.zero_le _,rfl,fun i hi=>absurd hi (Nat.not_lt_zero _)⟩
 case round =>
  obtain⟨n,hn,rfl,hok⟩:=hrel
  have hokH:=Lib.hid hok
  clear hok
  by_cases hlt:n<s.size
  ·by_cases ha:(s[n]'hlt).toNat<128
   ·have hr':∀ty,(Instr.next (.pointer (some ⟨w.heap.size,0,none⟩)) true ty).run prog (w.iter s n)= .ok (.tuple #[.bool true,.int .i64 n,.int .i32 (s[n]'hlt).toNat]) (w.iter s (n+1)):=fun ty=>run_next_ascii w s n ty hlt ha
    obtain⟨u,hu⟩:∃u,s[n]'hlt=u:=⟨_,rfl⟩
    obtain⟨c,hc⟩:∃c,u.toNat=c:=⟨_,rfl⟩
    rw[hu,hc] at hr'
    rw[hu,hc] at ha
    by_cases hk:okB u=true
    ·have hk2:=hk
     unfold okB at hk2
     rw[hc] at hk2
     simp only[Bool.and_eq_true,decide_eq_true_eq] at hk2
     obtain⟨⟨q0,q1⟩,q2⟩:=hk2
     have k0:¬(c:Int)<32:=by omega
     have k1:¬(126:Int)<c:=by omega
     have k2:¬(c:Int)=34:=by omega
     have hnext:Hid (∀i (hi:i<n+1) (hs:i<s.size),okB (s[i]'hs)=true):=fun i hi hs=>by
      by_cases h9:i=n
      ·subst h9;rw[hu];exact hk
      ·exact hokH.out i (by omega) hs
     clear hk hc hu q0 q1 q2
     go_wp2_with fail
     go_roundw
     case rel=>exact⟨n+1,by omega,rfl,hnext.out⟩
     case measure=>rw[iterLeft_is,iterLeft_is];omega
    ·have hno:=rightB_no n hlt (by rw[hu];simpa using hk)
     rw[hr] at hno
     subst hno
     have hk2:c<32∨126<c∨c=34:=by
      unfold okB at hk
      rw[hc] at hk
      simp only[Bool.and_eq_true,decide_eq_true_eq,not_and] at hk
      omega
     clear hk hc hu hr
     rcases hk2 with h9|h9|h9
     ·have k0:(c:Int)<32:=by omega
      go_wp2_with fail
      go_ret
      exact⟨rfl,(zR _ _).alloc (yR _) _⟩
     ·have k0:¬(c:Int)<32:=by omega
      have k1:(126:Int)<c:=by omega
      go_wp2_with fail
      go_ret
      exact⟨rfl,(zR _ _).alloc (yR _) _⟩
     ·subst h9
      go_wp2_with fail
      go_ret
      exact⟨rfl,(zR _ _).alloc (yR _) _⟩
   ·have hr':∀ty,(Instr.next (.pointer (some ⟨w.heap.size,0,none⟩)) true ty).run prog (w.iter s n)= .ok (.tuple #[.bool true,.int .i64 n,.int .i32 (Utf8.decode s n).1]) (w.iter s (n+(Utf8.decode s n).2)):=fun ty=>run_next_other w s n ty hlt
    have hd:=decode_other s n hlt ha
    have hno:=rightB_no n hlt (by unfold okB;rw[Bool.and_eq_false_iff,Bool.and_eq_false_iff];exact .inl (.inr (decide_eq_false (by omega))))
    rw[hr] at hno
    subst hno
    obtain⟨c,hc⟩:∃c,(Utf8.decode s n).1=c:=⟨_,rfl⟩
    rw[hc] at hr' hd
    have k0:¬(c:Int)<32:=by omega
    have k1:(126:Int)<c:=by omega
    clear hc hr ha hd
    go_wp2_with fail
    go_ret
    exact⟨rfl,(zR _ _).alloc (yR _) _⟩
  ·obtain rfl:n=s.size:=by omega
   have hr':∀ty,(Instr.next (.pointer (some ⟨w.heap.size,0,none⟩)) true ty).run prog (w.iter s s.size)= .ok (.tuple #[.bool false]) (w.iter s s.size):=fun ty=>run_next_end w s s.size ty (by omega)
   have hyes:=rightB_of (s:=s) fun i hi=>hokH.out i hi hi
   rw[hr] at hyes
   subst hyes
   clear hr
   go_wp2_with fail
   go_ret
   exact⟨rfl,(zR _ _).alloc (yR _) _⟩
end
end Go.Proofs.YtfocdbjceedagaaGreatDoor
