/-
  Parts.
-/
import Derived.Test.YtfocdbjceedagaaGreatDoorYae
import Derived.Lib.FrozenHead2
import Derived.Lib.OthersKept
import Derived.Laws.RangeString
import Derived.Deep.WholeRow
import Derived.Laws.Rows
import Derived.Laws.IdiomStrings
set_option linter.unusedVariables false
set_option linter.unusedSimpArgs false
set_option maxHeartbeats 4000000
set_option maxRecDepth 100000
namespace Go.Proofs.YtfocdbjceedagaaGreatDoor
open Tryz
section
open Go.RowKit Go.Shelf Go.Maps
attribute [local go_sem] Oper.semAt_some
def c6q (s:Sh)(id:Int)(en:List (a0o×Int))(d:a0o):List (a0o×Int) :=
 if onS s d.1 d.2&&(!a9n en d||decide (id<(a5m en d).getD 0)) then b3o en d id else en
def c4h (s:Sh)(p:a0o):a0o:=(c1q s p.1,c1r s p.2)
def c7m (s:Sh)(p q:a0o):List a8f:=c4e (a9o (c4h s p) (c4h s q)) (a4y (c4h s p) (c4h s q)+1).toNat
def a3x (s:Sh)(id:Int)(en:List (a0o×Int))(l:List a8f):List (a0o×Int):=l.foldl (fun en d=>c6q s id en d.1) en
structure WI (s:Sh)(id:Int)(w:World)(Bs mb Bm Bw n0:Nat)(way:Array Value)(en0:List (a0o×Int))(pre:List a8f)(W:World):Prop where
 map:∃n,n≤n0+pre.length∧MapIs W mb n (a3x s id en0 pre)
 sheet:Blk W Bs #[.int .i64 s.ax,.int .i64 s.ay,.int .i64 s.st,.int .i64 s.w,.int .i64 s.h,.int .i64 s.g] 28
 box:Blk W Bm #[.map (some mb)] 117
 way:Blk W Bw way 149
 below:Below w.heap.size w W
theorem WI.own {s:Sh}{id:Int}{w:World}{Bs mb Bm Bw n0 B:Nat}{way:Array Value}{en0:List (a0o×Int)}(hs:Bs<B)(hm:mb<B)(hb:Bm<B)(hw:Bw<B)(hB:w.heap.size≤B):OwnFrom B (WI s id w Bs mb Bm Bw n0 way en0):=fun pre X Y row h hg hr=>by
 have hne:∀b,b<B→row≠some b:=fun b hb e=>by have:=(hr b e).1;omega
 obtain⟨⟨n,hn,hM⟩,h1,h2,h3,h4⟩:=h;exact⟨⟨n,hn,hM.kept hg (hne _ hm)⟩,h1.kept hg (hne _ hs),h2.kept hg (hne _ hb),h3.kept hg (hne _ hw),h4.grown hg h4.size (fun k e=>Nat.le_trans hB (hr k e).1)⟩
theorem WI.grown {s:Sh}{id:Int}{w W W':World}{Bs mb Bm Bw n0:Nat}{way:Array Value}{en0:List (a0o×Int)}{pre:List a8f}(h:WI s id w Bs mb Bm Bw n0 way en0 pre W)(hg:W.grownBy W' none):WI s id w Bs mb Bm Bw n0 way en0 pre W':=by
 obtain⟨⟨n,hn,hM⟩,h1,h2,h3,h4⟩:=h;exact⟨⟨n,hn,hM.kept hg (by simp)⟩,h1.kept hg (by simp),h2.kept hg (by simp),h3.kept hg (by simp),h4.grown hg h4.size (fun k e=>by cases e)⟩
theorem c0h {s:Sh}{x y i j:Int}(hs:OkS s)(x0 : -16384≤x)(x1:x≤16384)(y0 : -16384≤y)(y1:y≤16384)(hi:c1q s x=i)(hj:c1r s y=j):Near (i,j):=by
 have h1:=c3v (a:=x-s.ax) (b:=s.st) (m:=32768) (by have:=hs.st0;omega) (by have:=hs.x1;omega) (by have:=hs.x0;omega);have h2:=c3v (a:=y-s.ay) (b:=s.st) (m:=32768) (by have:=hs.st0;omega) (by have:=hs.y1;omega) (by have:=hs.y0;omega);unfold c1q at hi;unfold c1r at hj;exact⟨by show _≤i;omega,by show i≤_;omega,by show _≤j;omega,by show j≤_;omega⟩
theorem a7m {F:Fence}{n:Nat}{P:Program}{α:Type}{g:Operand}{ps:Array Tmp}{assign body:Code}{Q:Exit→Act→World→Prop}{a:Act}{w:World}(slot sbox:Nat)(encV:α→Value)(encC:α→Array Value)(ty:TypeId)
 (hro:F.round=none) (h1:1≤n) {gf:Nat} {lb:Array Value} (hg:a.eval g= .func (.func gf) #[] lb) (hFg:F.fn gf) (eg:∀args w,(callFunc gf args).run P w= .ok (.enter gf args) w)
 {encs:α→Array Value} {Kp:World→World→Prop} {S Sp:List α→Prop} {N:Nat} {w0:World} (hseq:SeqStopsK F (n-1) P gf lb encs Kp S Sp N w0)
 (hKt:∀ {A B C:World},Kp A B→Kp B C→Kp A C) (hKb:∀(W:World) (l:Nat) (o o':Obj),w.heap.size≤l→W.heap[l]? =some o→o.isCells=false→o.isWalk=false→Kp W (W.putObj l o')) (hb0:Below w0.heap.size w0 w) (hps:∀x,(encs x).size=ps.size)
 (I:List α→World→Prop) (hI:OwnFrom w.heap.size I) (h0:I [] w)
 (hassign:∀(l:Nat) (pre:List α) (x:α) (W:World) (K:Act→World→Prop),I pre W→(∀a' W',KeepsFrom w.heap.size W W'→Kp W W'→I pre W'→(∃Bx,w.heap.size≤Bx∧Blk W' Bx (encC x) ty∧a'={ tmps:=(a.tmps.setIfInBounds slot (encV x)).setIfInBounds sbox (.pointer (some ⟨Bx,0,none⟩)),defers:=[] })→K a' W') →
  assign.wpIn (F.inRound l) (n-1-1) P (Exit.then K (fun _ _ _=>False)) { tmps:=(ps.zip (encs x)).foldl (fun t (p,v)=>t.setIfInBounds p v) a.tmps,defers:=[] } W)
 (hbody:∀(l:Nat) (pre:List α) (x:α) (Bx:Nat) (W:World),I pre W→w.heap.size≤Bx→Blk W Bx (encC x) ty→pre.length<N→body.wpIn (F.inRound l) (n-1-1) P (ownPostG w.heap.size Kp I (fun _ _ _=>False) (pre++[x]) W) { tmps:=(a.tmps.setIfInBounds slot (encV x)).setIfInBounds sbox (.pointer (some ⟨Bx,0,none⟩)),defers:=[] } W)
 (hdone:∀(D:Nat) (xs:List α) (W:World),w.heap.size≤D→S xs→I xs W→W.heap[D]? =some (.deferred (some []))→Q .normal { a with defers:={ target:= .collected D,args:= #[] }::a.defers } W) :
 (Code.rangeFunc g ps assign body).wpIn F n P Q a w :=
 wpIn_rangeFunc_ownH hro h1 hg hFg eg hseq hKt hKb hb0 hps I (fun _ _ _=>False) hI (fun _=>ownFrom_pure _ _) h0
  (fun x a' W=>∃Bx,w.heap.size≤Bx∧Blk W Bx (encC x) ty∧a'={ tmps:=(a.tmps.setIfInBounds slot (encV x)).setIfInBounds sbox (.pointer (some ⟨Bx,0,none⟩)),defers:=[] })
  (fun x a' _ X Y row hs hg hr=>by obtain⟨Bx,k1,k2,k3⟩:=hs;exact⟨Bx,k1,c3t Bx ty (fun (_:Unit)=>encC x) () X Y row k2 hg (fun r e=>(hr r e).2),k3⟩)
  hassign (fun l pre x a' W _ _ hi hax hl=>by obtain⟨Bx,k1,k2,rfl⟩:=hax;exact hbody l pre x Bx W hi k1 k2 hl) hdone (fun _ _ _ _ _ _ hF _=>hF.elim)
theorem a4z {Ba Bb:Nat}{W W':World}{row:Option Nat}(hg:W.grownBy W' row)(ha:Ba<W.heap.size)(hb:Bb<W.heap.size)(hra:row≠some Ba)(hrb:row≠some Bb):b5s Ba Bb W W' :=
 ⟨hg.block Ba ha (fun e=>hra e.symm),hg.block Bb hb (fun e=>hrb e.symm)⟩
theorem b5t (s:Sh)(id:Int)(en:List (a0o×Int))(pre:List a8f)(x:a8f):a3x s id en (pre++[x])=c6q s id (a3x s id en pre) x.1:=by simp[a3x]
theorem WI.sized {s:Sh}{id:Int}{w:World}{Bs mb Bm Bw n0 B Z:Nat}{way:Array Value}{en0:List (a0o×Int)}(hs:Bs<B)(hm:mb<B)(hb:Bm<B)(hw:Bw<B)(hB:w.heap.size≤B):OwnFrom B (fun pre W=>WI s id w Bs mb Bm Bw n0 way en0 pre W∧Z≤W.heap.size):=fun pre X Y row h hg hr =>
 ⟨WI.own hs hm hb hw hB pre X Y row h.1 hg hr,Nat.le_trans h.2 hg.size⟩
theorem c0i {a b:a0o}(ha:Near a)(hb:Near b):(a4y a b+1).toNat≤80001:=by
 have h:=c4d (a:=b.1-a.1) (b := -(b.1-a.1)) (c:=b.2-a.2) (d := -(b.2-a.2)) (m:=80000) (by have:=ha.x0;have:=hb.x1;omega) (by have:=ha.x1;have:=hb.x0;omega) (by have:=ha.y0;have:=hb.y1;omega) (by have:=ha.y1;have:=hb.y0;omega);have h2:a4y a b≤80000:=h;omega
theorem b8j (l:List (a0o×Int))(p:a0o)(x:Int):(b3o l p x).length≤l.length+1:=by unfold b3o;split <;> simp
end
section
open Go.RowKit Go.Shelf
attribute [local go_sem] Oper.semAt_some
theorem d0j (n m:Int)(hm:1≤m):(n.tmod m+m) % m=n % m:=by
 rw[Int.add_emod_right,Int.tmod_eq_emod];split
 ·rw[Int.natCast_zero,Int.sub_zero,Int.emod_emod_of_dvd _ (Int.dvd_refl m)]
 ·rw[Int.natAbs_of_nonneg (by omega),Int.sub_emod_right,Int.emod_emod_of_dvd _ (Int.dvd_refl m)]
theorem a0p (n m:Int)(w:World)(hn:a0i n)(h1:1≤m)(h2:m≤4611686018427387904) :
 Calls prog 77 #[.int .i64 n,.int .i64 m] w fun r w'=>r= .returned (.int .i64 (n % m))∧w=w':=by
 obtain⟨n0,n1⟩:=hn;have b0:=Int.lt_tmod_of_pos n (b:=m) (by omega);have b1:=Int.tmod_lt_of_pos n (b:=m) (by omega);have b2:0≤n.tmod m+m:=by omega
 have b3:n.tmod m+m≤9223372036854775807:=by omega
 have h0:(m==0)=false:=by simp;omega
 have HM:=Lib.hid (d0j n m h1);go_enter func77,ntmps77;go_wp2_with fail;go_ret;exact⟨a3g HM.out,rfl⟩
theorem b5u (n lo hi:Int)(w:World) :
 Calls prog 141 #[.int .i64 n,.int .i64 lo,.int .i64 hi] w fun e w'=>e= .returned (.bool (inR lo n hi))∧w=w':=by
 go_enter func141,ntmps141;go_wp2_with fail
 all_goals
  go_ret;exact⟨by unfold inR;first|rfl|(congr 2;simp;omega),rfl⟩
theorem a8g {s:Sh}{i j:Int}:onS s i j=true↔(0≤i∧i<s.w)∧0≤j∧j<s.h:=by
 simp only[onS,inR,Bool.and_eq_true,decide_eq_true_eq];omega
theorem c4i {s:Sh}(h:(1≤s.st∧s.st≤1024)∧(1≤s.w∧s.w≤80)∧(1≤s.h∧s.h≤80)∧(1≤s.g∧s.g≤4)):a1w s=if a2b s.ax s.ay&&a2b (s.ax+s.w*s.st) (s.ay+s.h*s.st) then 0 else 10:=by
 unfold a1w;rw[if_pos];simp only[Bool.and_eq_true,b0j];omega
structure InS (s:Sh):Prop where
 a1:1≤s.st
 a2:s.st≤1024
 b1:1≤s.w
 b2:s.w≤80
 c1:1≤s.h
 c2:s.h≤80
 d1:1≤s.g
 d2:s.g≤4
def apF (a b:Int):Int:=if a≤b then (if 80<b-a then 80 else b-a) else (if 80<a-b then 80 else a-b)
theorem c9t {x y:Int}(hx:a0i x)(hy:a0i y)(h:y≤x):IntKind.u64.wrap (IntKind.u64.wrap x-IntKind.u64.wrap y)=x-y:=by
 obtain⟨x0,x1⟩:=hx;obtain⟨y0,y1⟩:=hy;simp[IntKind.wrap,IntKind.bits,IntKind.signed];omega
theorem c4j (a b:Int)(w:World)(ha:a0i a)(hb:a0i b) :
 Calls prog 69 #[.int .i64 a,.int .i64 b] w fun e w'=>e= .returned (.int .i64 (apF a b))∧w=w':=by
 obtain⟨r,hr⟩:∃r,apF a b=r:=⟨_,rfl⟩;rw[hr];have hu1:=fun h=>c9t (x:=a) (y:=b) ha hb h
 have hu2:=fun h=>c9t (x:=b) (y:=a) hb ha h
 obtain⟨a0,a1⟩:=ha;obtain⟨b0,b1⟩:=hb;unfold apF at hr;by_cases h:b<a
 ·have hu:=hu1 (by omega)
  rw[if_neg (by omega)] at hr;clear hu1 hu2;by_cases h8:80<a-b
  ·rw[if_pos h8] at hr
   subst hr;go_enter func69,ntmps69;go_wp2_with fail;go_ret;exact⟨rfl,rfl⟩
  ·rw[if_neg h8] at hr
   subst hr;go_enter func69,ntmps69;go_wp2_with fail;go_ret;exact⟨rfl,rfl⟩
 ·have hu:=hu2 (by omega)
  rw[if_pos (by omega)] at hr;clear hu1 hu2;by_cases h8:80<b-a
  ·rw[if_pos h8] at hr
   subst hr;go_enter func69,ntmps69;go_wp2_with fail;go_ret;exact⟨rfl,rfl⟩
  ·rw[if_neg h8] at hr
   subst hr;go_enter func69,ntmps69;go_wp2_with fail;go_ret;exact⟨rfl,rfl⟩
theorem c9u (a b:Int):0≤apF a b∧apF a b≤80:=by unfold apF;repeat' split;all_goals omega
structure DtRow (W:World)(b o:Nat)(d:Dt):Prop where
 c0:W.cell? ⟨b,o,none⟩=some (.int .i64 d.x)
 c1:W.cell? ⟨b,o+1,none⟩=some (.int .i64 d.y)
 c2:W.cell? ⟨b,o+2,none⟩=some (.int .i64 d.k)
 c3:W.cell? ⟨b,o+3,none⟩=some (.int .i64 d.i)
theorem DtRow.below {n₀:Nat}{A B:World}(h:Below n₀ A B){b o:Nat}{d:Dt}(hb:b<n₀)(r:DtRow A b o d):DtRow B b o d :=
 ⟨(h.cell (p:=⟨b,o,none⟩) hb).trans r.c0,(h.cell (p:=⟨b,o+1,none⟩) hb).trans r.c1,(h.cell (p:=⟨b,o+2,none⟩) hb).trans r.c2,(h.cell (p:=⟨b,o+3,none⟩) hb).trans r.c3⟩
def Dts (n₀:Nat)(W:World)(sv:Value)(l:List Dt):Prop :=
 (sv= .slice none 0 0∧l=[])∨∃b off cap,sv= .slice (some ⟨b,off,none⟩) l.length cap∧b<n₀∧l.length≤4294967296∧(∀d∈l,a0i d.x∧a0i d.y)∧∀j,(h:j<l.length)→DtRow W b (off+j*4) l[j]
theorem Dts.below {n₀:Nat}{A B:World}(h:Below n₀ A B){sv:Value}{l:List Dt}:Dts n₀ A sv l→Dts n₀ B sv l
 |.inl e=> .inl e
 |.inr ⟨b,off,cap,e,hb,hl,hf,hc⟩=> .inr ⟨b,off,cap,e,hb,hl,hf,fun j hj=>(hc j hj).below h hb⟩
theorem Dts.mono {n₀ n₁:Nat}(h:n₀≤n₁){W:World}{sv:Value}{l:List Dt}:Dts n₀ W sv l→Dts n₁ W sv l
 |.inl e=> .inl e
 |.inr ⟨b,off,cap,e,hb,r⟩=> .inr ⟨b,off,cap,e,Nat.lt_of_lt_of_le hb h,r⟩
theorem d1z:∀(l:List Dt)(j:Nat)(h:j<l.length),(l.flatMap a7l)[j*4]? =some (.int .i64 l[j].x)∧(l.flatMap a7l)[j*4+1]? =some (.int .i64 l[j].y)∧(l.flatMap a7l)[j*4+2]? =some (.int .i64 l[j].k)∧(l.flatMap a7l)[j*4+3]? =some (.int .i64 l[j].i)
 |[],j,h=>by simp at h
 |d::l,0,_=>by simp
 |d::l,j+1,h=>by
  have ih:=d1z l j (by simpa using h);have e:(j+1)*4=j*4+1+1+1+1:=by omega
  rw[e];simpa [List.flatMap_cons,Nat.add_assoc] using ih
theorem a3v {base:Nat}{W:World}{v:Value}{l:List Dt}(h:W.ownsRow base 54 4 v l.length (l.flatMap a7l))(hl:l.length≤4294967296)(hf:∀d∈l,a0i d.x∧a0i d.y):Dts W.heap.size W v l:=by
 rcases h.2 with ⟨rfl,h0⟩|⟨g,cap,cur,rfl,hbase,hgb,_⟩
 ·exact .inl ⟨rfl,List.eq_nil_of_length_eq_zero h0⟩
 ·refine .inr ⟨g,0,cap,rfl,(Array.getElem?_eq_some_iff.1 hgb).1,hl,hf,fun j hj=> ?_⟩
  obtain⟨f0,f1,f2,f3⟩:=d1z l j hj;rw[Nat.zero_add];exact⟨(h.cellAt _ (by omega)).trans f0,(h.cellAt _ (by omega)).trans f1,(h.cellAt _ (by omega)).trans f2,(h.cellAt _ (by omega)).trans f3⟩
def apD (d e:Dt):Int:=if apF d.y e.y>apF d.x e.x then apF d.y e.y else apF d.x e.x
def b0p (m:Int)(d e:Dt):Int:=if apD d e<m then apD d e else m
def a3d (d:Dt)(m:Int)(b:List Dt):Int:=b.foldl (fun m e=>b0p m d e) m
def a1x (a b:List Dt):Int:=a.foldl (fun m d=>a3d d m b) 80
theorem c7n {m:Int}(h:0≤m∧m≤80)(d e:Dt):0≤b0p m d e∧b0p m d e≤80:=by
 have h1:=c9u d.x e.x;have h2:=c9u d.y e.y;unfold b0p apD;repeat' split
 all_goals omega
theorem b5v (d:Dt):∀(b:List Dt)(m:Int),0≤m∧m≤80→0≤a3d d m b∧a3d d m b≤80
 |[],m,h=>h
 |e::b,m,h=>by
  have:=b5v d b (b0p m d e) (c7n h d e);simpa [a3d] using this
theorem b8k {d:Dt}{m:Int}{b:List Dt}{k:Nat}(h:k<b.length):a3d d m (b.take (k+1))=b0p (a3d d m (b.take k)) d b[k]:=by
 unfold a3d;rw[List.take_add_one,List.getElem?_eq_getElem h,List.foldl_append];rfl
theorem b8l {a b:List Dt}{k:Nat}(h:k<a.length):a1x (a.take (k+1)) b=a3d a[k] (a1x (a.take k) b) b:=by
 unfold a1x;rw[List.take_add_one,List.getElem?_eq_getElem h,List.foldl_append];rfl
theorem c4k (b:List Dt):∀(a:List Dt),0≤a1x a b∧a1x a b≤80:=by
 have h:∀(a:List Dt) (m:Int),0≤m∧m≤80→0≤a.foldl (fun m d=>a3d d m b) m∧a.foldl (fun m d=>a3d d m b) m≤80:=by
  intro a;induction a with
  |nil=>exact fun m h=>h
  |cons d a ih=>exact fun m h=>ih _ (b5v d b m h)
 exact fun a=>h a 80 ⟨by decide,by decide⟩
theorem c0j {a b r:Int}(hr:apF a b=r)(w:World)(ha:a0i a)(hb:a0i b) :
 Calls prog 69 #[.int .i64 a,.int .i64 b] w fun e w'=>e= .returned (.int .i64 r)∧w=w':=by
 have h:=c4j a b w ha hb;rw[hr] at h;exact h
theorem Dts.open_ {n₀:Nat}{W:World}{sv:Value}{l:List Dt}(h:Dts n₀ W sv l):l.length≤4294967296∧∃a cap,sv= .slice a l.length cap∧∀j,(h:j<l.length)→∃b off,a=some ⟨b,off,none⟩∧b<n₀∧DtRow W b (off+j*4) l[j]∧a0i l[j].x∧a0i l[j].y:=by
 rcases h with ⟨rfl,rfl⟩|⟨b,off,cap,rfl,hb,hl,hf,hc⟩
 ·exact⟨by simp,none,0,rfl,fun j hj=>by simp at hj⟩
 ·exact⟨hl,_,cap,rfl,fun j hj=>⟨b,off,rfl,hb,hc j hj,hf _ (List.getElem_mem hj)⟩⟩
theorem c4l (va vb:Value)(a b:List Dt)(w:World)(ha:Dts w.heap.size w va a)(hb:Dts w.heap.size w vb b) :
 Calls prog 25 #[va,vb] w fun e w'=>e= .returned (.int .i64 (a1x a b))∧Below w.heap.size w w':=by
 obtain⟨la,aa,ca,rfl,ra⟩:=ha.open_;obtain⟨lb,ab,cb,rfl,rb⟩:=hb.open_;go_enter func25,ntmps25;go_wp2_with fail;go_loopw [5,12] (fun m i wr=>∃k:Nat,k≤a.length∧m= .int .i64 (a1x (a.take k) b)∧i= .int .i64 k∧Below w.heap.size w wr)
  (fun _ i _=>a.length-(intOf i).toNat)
 case atStart=>exact⟨0,Nat.zero_le _,rfl,rfl,zR _ _⟩
 case round =>
  obtain⟨k,hk,rfl,rfl,hB⟩:=hrel;have hsz:=hB.size;by_cases hlt:k<a.length
  ·have hltI:(k:Int)<(a.length:Int):=by omega
   obtain⟨bl,off,rfl,hbl,hrow,f0,f1⟩:=ra k hlt;obtain⟨c0,c1,c2,c3⟩:=hrow.below hB hbl;obtain⟨m0,hm0⟩:∃m,a1x (a.take k) b=m:=⟨_,rfl⟩;have hin:=c4k b (a.take k);rw[hm0] at hin;have htk:=b8l (a:=a) (b:=b) hlt;rw[hm0] at htk ⊢;obtain⟨d,hd⟩:∃d,a[k]=d:=⟨_,rfl⟩;rw[hd] at c0 c1 c2 c3 f0 f1 htk;clear hm0 hd hrow;replace htk:=Lib.hid htk;obtain⟨dx,dy,dk,di⟩:=d;simp only at c0 c1 c2 c3 f0 f1;go_wp2_with fail;obtain⟨W,hW⟩:∃W,wr.alloc (.cells #[.int .i64 dx,.int .i64 dy,.int .i64 dk,.int .i64 di] 54)=W:=⟨_,rfl⟩;have bX:Blk W wr.heap.size #[.int .i64 dx,.int .i64 dy,.int .i64 dk,.int .i64 di] 54:=by rw[←hW];exact Blk.new wr _ _
   have hBW:Below w.heap.size w W:=by rw[←hW];exact hB.alloc hsz _
   rw[hW];clear hW;have hBx:w.heap.size≤wr.heap.size:=hsz;generalize wr.heap.size=Bx at *;go_loopw [5,18] (fun m i wr=>∃j:Nat,j≤b.length∧m= .int .i64 (a3d ⟨dx,dy,dk,di⟩ m0 (b.take j))∧i= .int .i64 j∧Below w.heap.size w wr∧Blk wr Bx #[.int .i64 dx,.int .i64 dy,.int .i64 dk,.int .i64 di] 54)
    (fun _ i _=>b.length-(intOf i).toNat)
   case atStart=>exact⟨0,Nat.zero_le _,rfl,rfl,hBW,bX⟩
   case round =>
    obtain⟨j,hj,rfl,rfl,hB2,bX2⟩:=hrel;have hsz2:=hB2.size;by_cases hlt2:j<b.length
    ·have hltI2:(j:Int)<(b.length:Int):=by omega
     obtain⟨bl2,off2,rfl,hbl2,hrow2,f2,f3⟩:=rb j hlt2;obtain⟨e0,e1,e2,e3⟩:=hrow2.below hB2 hbl2;obtain⟨m1,hm1⟩:∃m,a3d ⟨dx,dy,dk,di⟩ m0 (b.take j)=m:=⟨_,rfl⟩;have htk2:=b8k (d:=⟨dx,dy,dk,di⟩) (m:=m0) hlt2;rw[hm1] at htk2 ⊢;obtain⟨e,he⟩:∃e,b[j]=e:=⟨_,rfl⟩;rw[he] at e0 e1 e2 e3 f2 f3 htk2;clear hm1 he hrow2;obtain⟨ex,ey,ek,ei⟩:=e;simp only at e0 e1 e2 e3 f2 f3;obtain⟨r1,hr1⟩:∃r,apF dx ex=r:=⟨_,rfl⟩;obtain⟨r2,hr2⟩:∃r,apF dy ey=r:=⟨_,rfl⟩;simp only[b0p,apD,hr1,hr2] at htk2;replace htk2:=Lib.hid htk2;replace hr1:=Lib.hid hr1;replace hr2:=Lib.hid hr2;have x0:wr.cell? ⟨Bx,0,none⟩=some (.int .i64 dx):=bX2.cell 0;have x1:wr.cell? ⟨Bx,1,none⟩=some (.int .i64 dy):=bX2.cell 1;have lX:=bX2.lt;clear ra rb ha hb c0 c1 c2 c3;go_wp2_with fail;first|with_reducible refine a0v (by kernel_rfl) (by kernel_rfl) ?_|with_reducible refine a1a (by kernel_rfl) (by kernel_rfl) ?_
     repeat (first|go_big_quiet_step ((go_at_call 69;exact Calls.grow_of_same (c0j (by first|with_reducible exact hr1.out|with_reducible exact hr2.out) _ (by assumption) (by assumption))))|quiet_step ((go_at_call 69;exact Calls.grow_of_same (c0j (by first|with_reducible exact hr1.out|with_reducible exact hr2.out) _ (by assumption) (by assumption)))))
     refine wpQuiet_nil ?_;intro _ hw_;obtain⟨p,hw_⟩:=hw_;subst hw_;have hW9:Below wr.heap.size wr ((wr.alloc (.cells #[.int .i64 ex,.int .i64 ey,.int .i64 ek,.int .i64 ei] 54)).growBy p):=(by repeat' (first|with_reducible (first|exact zR _ _|exact yR _|assumption|refine zG ?_ ?_ _|refine zA ?_ ?_ _|refine zS ?_ ?_ _|refine zD ?_|refine yA ?_|refine yG ?_|refine yS ?_|refine yD ?_)|omega|(dsimp only;omega)));go_wp2_with fail;go_roundw
     case rel=>exact⟨j+1,by omega,by rw[htk2.out];congr 1;omega,by go_num,hB2.trans (hW9.mono hsz2),bX2.below hW9 lX⟩
     case measure=>simp[intOf];omega
    ·obtain rfl:j=b.length:=by omega
     rw[List.take_length];have h9:=htk.out;go_wp2_with fail;go_roundw
     case rel=>exact⟨k+1,by omega,by rw[htk.out],by go_num,hB2⟩
     case measure=>simp[intOf];omega
  ·obtain rfl:k=a.length:=by omega
   rw[List.take_length];go_wp2_with fail;go_ret;exact⟨rfl,hB⟩
theorem a4n (c:Int)(b:Bool)(hb:(decide (48≤c)&&decide (c≤57))=b)(w:World):Calls prog 119 #[.int .u8 c] w fun e w'=>e= .returned (.bool b)∧w=w':=by
 subst hb;go_enter func119,ntmps119;go_wp2_with fail
 all_goals
  go_ret;exact⟨by first|rfl|(congr 2;simp;omega),rfl⟩
def one:ByteArray:=⟨#[49]⟩
def a3t:Array Value:= #[.string ⟨#[119,105,116,104]⟩,.string ⟨#[116,104,101]⟩,.string ⟨#[97,110,100]⟩,.string ⟨#[102,111,114]⟩,.string ⟨#[105,110,103]⟩,.string ⟨#[111,102]⟩,.string ⟨#[99,104]⟩,.string ⟨#[115,104]⟩,.string ⟨#[116,104]⟩,.string ⟨#[115,116]⟩,.string ⟨#[101,114]⟩]
def wordsL:List ByteArray:=[⟨#[119,105,116,104]⟩,⟨#[116,104,101]⟩,⟨#[97,110,100]⟩,⟨#[102,111,114]⟩,⟨#[105,110,103]⟩,⟨#[111,102]⟩,⟨#[99,104]⟩,⟨#[115,104]⟩,⟨#[116,104]⟩,⟨#[115,116]⟩,⟨#[101,114]⟩]
theorem a5p (w:World):Calls prog 115 #[] w fun e w'=>e= .returned (.slice (some ⟨w.heap.size,0,none⟩) 11 11)∧w'=w.alloc (.cells a3t 9):=by
 go_enter func115,ntmps115;go_wp2_with fail;go_ret;exact⟨rfl,rfl⟩
theorem sizeBuilder:(prog.info? 178).map (·.size)=some 2:=by kernel_rfl
theorem liesBuilder:liesAt prog prog.depth 178 (2 / prog.cellsOf 178) 0 178 1=true:=by kernel_rfl
theorem b2d (b:Nat)(w:World)(h0:w.cell? ⟨b,0,none⟩=some (.pointer (some ⟨b,0,none⟩))) :
 Calls prog 157 #[.pointer (some ⟨b,0,none⟩)] w fun e w'=>e= .returned (.tuple #[])∧w'=w:=by
 obtain⟨j,hj,_⟩:=Option.map_eq_some_iff.1 sizeBuilder;go_enter func157,ntmps157;go_wp2
 rw[Lib.run_neq_ptr_same w _ underlying176 hj];go_wp2
 go_end0;exact⟨rfl,rfl⟩
theorem b0q (b:Nat)(w:World)(h0:w.cell? ⟨b,0,none⟩=some (.pointer none))(hsh:w.shape? b=some (178,2))(hfz:w.frozen? ⟨b,0,none⟩=false) :
 Calls prog 157 #[.pointer (some ⟨b,0,none⟩)] w fun e w'=>e= .returned (.tuple #[])∧w'=w.setCell ⟨b,0,none⟩ (.pointer (some ⟨b,0,none⟩)):=by
 obtain⟨j,hj,hjs⟩:=Option.map_eq_some_iff.1 sizeBuilder;go_enter func157,ntmps157;go_wp2
 rw[Lib.run_to_unsafe w ⟨b,0,none⟩ underlying176 underlying232 hj (by rw[hjs];decide) hsh (Nat.zero_lt_succ 1)];simp only[Result.andThen];rw[Oper.upon_value];go_wp2
 rw[run_callFunc_extern func173 (by kernel_rfl) (by kernel_rfl) (by kernel_rfl) (e:=Extern.AbiNoEscape.same) (by kernel_rfl)];rw[Lib.run_noEscape];simp only[Result.andThen];rw[Oper.upon_value];go_wp2
 rw[Lib.run_from_unsafe w ⟨b,0,none⟩ underlying232 underlying176 hj hsh liesBuilder];simp only[Result.andThen];rw[Oper.upon_value];go_wp2
 go_end0;exact⟨rfl,rfl⟩
theorem infoByte:(prog.info? 5).map (fun i=>(i.zero,i.size,i.bytes))=some (some (.int .u8 0),1,1):=by kernel_rfl
theorem b2e:∃i,prog.info? 5=some i∧i.zero=some (.int .u8 0)∧i.size=1∧i.bytes=1:=by
 obtain⟨i,hi,h⟩:=Option.map_eq_some_iff.1 infoByte;simp only[Prod.mk.injEq] at h;exact⟨i,hi,h.1,h.2.1,h.2.2⟩
theorem b8m (B b:Nat)(bs:List Value)(w:World)(h:Lib.IsBuilderF 178 5 B b bs w) :
 Calls prog 157 #[.pointer (some ⟨b,0,none⟩)] w fun e w'=>e= .returned (.tuple #[])∧(Lib.BuilderAtF 178 5 B b (.pointer (some ⟨b,0,none⟩)) bs w'∧Below B w w'∧Lib.OthersKept 5 (some b) w w'):=by
 rcases h with h|h
 ·refine (b0q b w h.cell0 h.shape h.frozen0).mono ?_
  rintro e w'⟨rfl,rfl⟩;exact⟨rfl,h.used _,(zR B w).setCell (p:=⟨b,0,none⟩) h.1 _,(Lib.OthersKept.refl _ _ w).setCell ⟨b,0,none⟩ rfl _⟩
 ·refine (b2d b w h.cell0).mono ?_
  rintro e w'⟨rfl,rfl⟩;exact⟨rfl,h,zR B _,Lib.OthersKept.refl _ _ _⟩
theorem b8n (B b:Nat)(bs:List Value)(c:Int)(w:World)(h:Lib.IsBuilderF 178 5 B b bs w)(hlen:bs.length+1≤140737488355328)(hBw:B≤w.heap.size) :
 Calls prog 118 #[.pointer (some ⟨b,0,none⟩),.int .u8 c] w fun e w'=>e= .returned .nilIface∧(Lib.BuilderAtF 178 5 B b (.pointer (some ⟨b,0,none⟩)) (bs++[.int .u8 c]) w'∧Below B w w'∧Lib.OthersKept 5 (some b) w w'):=by
 obtain⟨i0,hi,hz0,hz1,hz2⟩:=b2e;go_enter func118,ntmps118;go_wp2_with (go_at_call 157;refine (b8m B b bs _ h).mono ?_);rintro e w1⟨rfl,h1,hb1,hk1⟩;obtain⟨hB,v,hbk,hown,hne⟩:=h1;have c0:w1.cell? ⟨b,0,none⟩=some (.pointer (some ⟨b,0,none⟩)):=by rw[Lib.cell_of_heap hbk];rfl
 have c1:w1.cell? ⟨b,1,none⟩=some v:=by rw[Lib.cell_of_heap hbk];rfl
 go_wp2_with (at_builtin;refine wpList_append_ownF _ rfl _ _ 116 rfl B 5 i0 (.int .u8 0) 1 1 underlying116 hi hz0 hz1 hz2 rfl (by decide) _ _ _ rfl (hown.alloc _) ⟨w1.heap.size,0,none⟩ 1 1 [.int .u8 c] rfl rfl ?c1 ?c2 ?c3 ?c4 ?c5 ?_)
 case c1 =>
  intro j u hj;match j,hj with
  |0,hj=>simp at hj;subst hj;simp[Addr.add]
 case c2=>intro u hu;simp at hu;subst hu;rfl
 case c3=>unfold maxLen;omega
 case c4=>omega
 case c5=>have:=hb1.size;simp;omega
 intro v' w2 hown' hgrow _;have hlt:b<w1.heap.size:=by
  rcases Nat.lt_or_ge b w1.heap.size with h'|h'
  ·exact h'
  ·simp[Array.getElem?_eq_none h'] at hbk
 have hb2:w2.heap[b]? =some (.cells #[.pointer (some ⟨b,0,none⟩),v] 178 (0,0)):=by
  rw[hgrow.block b (by simp;omega) (fun e=>hne e.symm),Lib.alloc_old w1 _ b hlt];exact hbk
 have d0:w2.cell? ⟨b,0,none⟩=some (.pointer (some ⟨b,0,none⟩)):=by rw[Lib.cell_of_heap hb2];rfl
 have d1:w2.cell? ⟨b,1,none⟩=some v:=by rw[Lib.cell_of_heap hb2];rfl
 have f1:w2.frozen? ⟨b,1,none⟩=false:=Lib.frozen_of_heap hb2 1;obtain⟨g,cap,rfl⟩:∃g cap,v'= .slice (some ⟨g,0,none⟩) (bs.length+1) cap:=by
  rcases hown'.2 with ⟨_,h0⟩|⟨g,cap,cur,fz,hv,_⟩
  ·omega
  ·exact⟨g,cap,hv⟩
 go_wp2
 go_ret;refine⟨rfl,?_,?_,((hk1.alloc _).grown hgrow (Lib.ownsRowF_kind (hown.alloc _))).setCell ⟨b,1,none⟩ rfl _⟩
 ·exact Lib.BuilderAtF.put (T:=178) (e:=5) hB hb2 (bs':=bs++[.int .u8 c]) (by simpa using hown') (by decide)
 ·exact ((hb1.alloc (by have:=hb1.size;omega) _).grown hgrow (by have:=hb1.size;simp;omega) (fun k hk=>(hown.lt k hk).1)).setCell (p:=⟨b,1,none⟩) hB _
structure BW (B sb b kb:Nat)(s:ByteArray)(k:Int)(l:List UInt8)(w0 w:World):Prop where
 below:Below B w0 w
 sbk:w.heap[sb]? =some (.cells #[.string s] 9 (0,0))
 kbk:w.heap[kb]? =some (.cells #[.int .i64 k] 3 (0,0))
 bld:Lib.IsBuilderF 178 5 B b (Lib.byteCells l) w
 kB:B≤kb
 neb:kb≠b
 nes:sb≠b
 nek:sb≠kb
theorem a4o {w:World}{k:Nat}{o:Obj}(h:w.heap[k]? =some o):k<w.heap.size:=(Array.getElem?_eq_some_iff.1 h).1
section
variable {B sb b kb:Nat}{s:ByteArray}{k:Int}{l:List UInt8}{w0 w:World}
theorem BW.le (h:BW B sb b kb s k l w0 w):B≤w.heap.size:=Nat.le_of_lt (Nat.lt_of_le_of_lt h.kB (a4o h.kbk))
theorem BW.alloc (h:BW B sb b kb s k l w0 w)(o:Obj):BW B sb b kb s k l w0 (w.alloc o) where
 below:=h.below.alloc h.le o
 sbk:=by rw[Lib.alloc_old w o sb (a4o h.sbk)];exact h.sbk
 kbk:=by rw[Lib.alloc_old w o kb (a4o h.kbk)];exact h.kbk
 bld:=h.bld.alloc o
 kB:=h.kB
 neb:=h.neb
 nes:=h.nes
 nek:=h.nek
theorem BW.drewN (h:BW B sb b kb s k l w0 w)(n:Nat):BW B sb b kb s k l w0 (w.drewN n) where
 below:=below_drewN' h.below n
 sbk:=h.sbk
 kbk:=h.kbk
 bld:=h.bld
 kB:=h.kB
 neb:=h.neb
 nes:=h.nes
 nek:=h.nek
theorem BW.cs (h:BW B sb b kb s k l w0 w):w.cell? ⟨sb,0,none⟩=some (.string s):=by rw[Lib.cell_of_heap h.sbk];rfl
theorem BW.ck (h:BW B sb b kb s k l w0 w):w.cell? ⟨kb,0,none⟩=some (.int .i64 k):=by rw[Lib.cell_of_heap h.kbk];rfl
theorem BW.fk (h:BW B sb b kb s k l w0 w):w.frozen? ⟨kb,0,none⟩=false:=Lib.frozen_of_heap h.kbk 0
theorem BW.byte (h:BW B sb b kb s k l w0 w)(c:UInt8)(hl:l.length+1≤140737488355328) :
 Calls prog 118 #[.pointer (some ⟨b,0,none⟩),.int .u8 c.toNat] w fun e w'=>e= .returned .nilIface∧BW B sb b kb s k (l++[c]) w0 w':=by
 refine (b8n B b (Lib.byteCells l) c.toNat w h.bld (by rw[Lib.byteCells_length];exact hl) h.le).mono ?_;rintro e w'⟨rfl,h1,h2,h3⟩;refine⟨rfl,h.below.trans h2,h3 sb _ h.sbk (fun e=>h.nes (Option.some.inj e)) (fun c fz e=>by cases e),h3 kb _ h.kbk (fun e=>h.neb (Option.some.inj e)) (fun c fz e=>by cases e),?_,h.kB,h.neb,h.nes,h.nek⟩;rw[show Lib.byteCells (l++[c])=Lib.byteCells l++[.int .u8 c.toNat] from by simp[Lib.byteCells]];exact .inr h1
theorem BW.newk (h:BW B sb b kb s k l w0 w)(k':Int):BW B sb b w.heap.size s k' l w0 (w.alloc (.cells #[.int .i64 k'] 3)) where
 below:=h.below.alloc h.le _
 sbk:=by rw[Lib.alloc_old w _ sb (a4o h.sbk)];exact h.sbk
 kbk:=heap_alloc_last w _
 bld:=h.bld.alloc _
 kB:=h.le
 neb:=by
  have hb:b<w.heap.size:=by rcases h.bld with h1|h1 <;> exact h1.lt
  omega
 nes:=h.nes
 nek:=Nat.ne_of_lt (a4o h.sbk)
end
theorem c0k {p:ByteArray→Bool}:∀(zs:List ByteArray)(i:Nat),(∀x∈zs,p x=false)→Lib.idxByFrom (fun _ y=>p y) default zs i = -1
 |[],_,_=>rfl
 |y::r,i,h=>by
  unfold Lib.idxByFrom;rw[h y (List.mem_cons_self ..)];exact c0k r (i+1) (fun x hx=>h x (List.mem_cons_of_mem _ hx))
theorem a0n {P:Program}{ops:Array Oper}{rest:List Oper}{o:Oper}{a:Act}{w:World}{Q:Exit→Act→World→Prop}(hg:o.guard=none)(t:TypeId)(x y:Operand)(ho:o.op= .index t x y)(s:ByteArray)(k:IntKind)(i:Int)(hx:a.eval x= .string s)(hy:a.eval y= .int k i)
 (hu:P.underlying t=some .string) (c:Int) (h0:0≤i) (h1:i<s.size) (hc:((s[i.toNat]'(by omega)).toNat:Int)=c) (h:wpList P ops Q rest (a.put o.dst (.int .u8 c)) w):wpList P ops Q (o::rest) a w:=by
 refine wpList_plain hg fun K hK=> ?_
 unfold Oper.wp execOp;simp only[ho,hx,hy,Sem.run_bind,run_index_string w t s k i hu];rw[dif_pos ⟨h0,h1⟩];simp only[Result.andThen_ok,Sem.run_pure];subst hc;exact hK _ _ h
theorem BW.start (w:World)(s:ByteArray)(p:Growth) :
 BW w.heap.size w.heap.size (w.heap.size+1+p.objs.size) (w.heap.size+1+p.objs.size+1) s 0 [] w
  ((((w.alloc (.cells #[.string s] 9)).growBy p).alloc (.cells #[.pointer none,.slice none 0 0] 178)).alloc (.cells #[.int .i64 0] 3)):=by
 obtain⟨W,hW⟩:∃W,(w.alloc (.cells #[.string s] 9)).growBy p=W:=⟨_,rfl⟩;have hs:W.heap.size=w.heap.size+1+p.objs.size:=by rw[←hW];simp
 have hh:W.heap[w.heap.size]? =some (.cells #[.string s] 9 (0,0)):=by
  rw[←hW,World.heap_growBy _ _ (by simp)];exact heap_alloc_last w _
 have hbl:Below w.heap.size w W:=by rw[←hW];exact (by repeat' (first|with_reducible (first|exact zR _ _|exact yR _|assumption|refine zG ?_ ?_ _|refine zA ?_ ?_ _|refine zS ?_ ?_ _|refine zD ?_|refine yA ?_|refine yG ?_|refine yS ?_|refine yD ?_)|omega|(dsimp only;omega)))
 rw[hW,←hs];have hs2:(W.alloc (.cells #[.pointer none,.slice none 0 0] 178)).heap.size=W.heap.size+1:=by simp
 refine⟨(hbl.alloc (by omega) _).alloc (by rw[hs2];omega) _,?_,?_,?_,by omega,by omega,by omega,by omega⟩
 ·rw[Lib.alloc_old _ _ _ (by rw[hs2];omega),Lib.alloc_old _ _ _ (by omega)];exact hh
 ·rw[←hs2];exact heap_alloc_last _ _
 ·refine Lib.IsBuilderF.alloc (.inl ⟨by omega,.slice none 0 0,heap_alloc_last _ _,⟨rfl,.inl ⟨rfl,rfl⟩⟩,by simp[Value.ownBlock]⟩) _
theorem BW.byte' {B sb b kb:Nat}{s:ByteArray}{k:Int}{l:List UInt8}{w0 w:World}(h:BW B sb b kb s k l w0 w)(u:UInt8)(c:Int)(hc:(u.toNat:Int)=c)(hl:l.length+1≤140737488355328) :
 Calls prog 118 #[.pointer (some ⟨b,0,none⟩),.int .u8 c] w fun e w'=>e= .returned .nilIface∧BW B sb b kb s k (l++[u]) w0 w':=by
 subst hc;exact h.byte u hl
def symC:Array Value:= #[.bool true,.bool true,.bool true,.bool true,.bool false,.bool true,.bool true,.bool true,.bool true,.bool false,.bool true,.bool false,.bool true,.bool true,.bool true,.bool false,.bool true,.bool false,.bool true,.bool false,.bool true,.bool false,.bool true,.bool false,.bool true,.bool false,.bool true,.bool true,.bool true,.bool true,.bool true,.bool true,.bool true,.bool true,.bool true,.bool true,.bool false,.bool false,.bool false,.bool true,.bool true,.bool true,.bool false,.bool false,.bool false,.bool false,.bool true,.bool false,.bool false,.bool true,.bool false,.bool false,.bool true,.bool false,.bool true,.bool false,.bool true,.bool false,.bool false,.bool false,.bool true,.bool false,.bool true]
def d4h:Array Value:= #[.bool false,.bool false,.bool false,.bool false,.bool false,.bool false,.bool false,.bool false,.bool false,.bool false,.bool false,.bool false,.bool false,.bool false,.bool false,.bool false,.bool false,.bool false,.bool false,.bool false,.bool false,.bool false,.bool false,.bool false,.bool false,.bool false,.bool false,.bool false,.bool false,.bool false,.bool false,.bool false,.bool false,.bool false,.bool false,.bool false,.bool false,.bool false,.bool false,.bool false,.bool false,.bool false,.bool false,.bool false,.bool false,.bool false,.bool false,.bool false,.bool false,.bool false,.bool false,.bool false,.bool false,.bool false,.bool false,.bool false,.bool false,.bool false,.bool false,.bool false,.bool false,.bool false,.bool false]
theorem b0r {P:Program}{ops:Array Oper}{rest:List Oper}{o:Oper}{a:Act}{w:World}{Q:Exit→Act→World→Prop}(hg:o.guard=none)(t:TypeId)(parts:Array (Nat×Operand))(ho:o.op= .build t parts)(cells:Array Value)
 (hc:P.built t (parts.map fun (i,x)=>(i,a.eval x)).toList=some cells) (h:wpList P ops Q rest (a.put o.dst (.agg cells)) w):wpList P ops Q (o::rest) a w :=
 wpList_build hg t parts ho (by rw[hc];rfl) (by rw[hc];exact h)
theorem b8o (w:World):Calls prog 63 #[] w fun e w'=>e= .returned (.agg symC)∧Below w.heap.size w w':=by
 have hi:(prog.info? 119).map (·.size)=some symC.size:=by kernel_rfl
 have hz:∀w,(zeroValue 119).run prog w= .ok (.agg d4h) w:=fun w=>by kernel_rfl
 go_enter func63,ntmps63;go_wp2_with (first|(refine b0r (by rfl) 119 _ (by rfl) symC (by kernel_rfl) ?_)|(refine wpList_store_row (by rfl) 119 _ _ (by rfl) w.heap.size symC (by rfl) (by rfl) 119 d4h (heap_alloc_last w _) (by kernel_rfl) (by rfl) (by decide +kernel) ?_;rw[World.setRow_alloc_new]));exact bodyPost_ret (results_cell_row (by rfl) _ _ w.heap.size 119 symC (0,0) _ (by rfl) (heap_alloc_last w _) underlying119 (by rfl) hi) rfl ⟨rfl,(by repeat' (first|with_reducible (first|exact zR _ _|exact yR _|assumption|refine zG ?_ ?_ _|refine zA ?_ ?_ _|refine zS ?_ ?_ _|refine zD ?_|refine yA ?_|refine yG ?_|refine yS ?_|refine yD ?_)|omega|(dsimp only;omega)))⟩
end
section
open Go.RowKit Go.Shelf Go.Maps
attribute [local go_sem] Oper.semAt_some
def b5j (l:List UInt8):Int:=(l.map fun c=>(c.toNat:Int)).sum
theorem c4m (l:List UInt8)(c:UInt8):b5j (l++[c])=b5j l+c.toNat:=by simp[b5j]
theorem c4n (l:List UInt8):0≤b5j l∧b5j l≤255*l.length:=by
 induction l with
 |nil=>simp[b5j]
 |cons c l ih =>
  have h:b5j (c::l)=c.toNat+b5j l:=by simp[b5j]
  have:=c.toNat_lt;rw[h];simp only[List.length_cons];omega
theorem c1u (s:ByteArray)(k:Nat)(h:k<s.size):s.data.toList.take (k+1)=s.data.toList.take k++[s[k]]:=by
 rw[List.take_succ_eq_append_getElem (by simpa using h)];rfl
theorem b5w (s:ByteArray)(cap k:Nat)(h:k<s.size):(bytesRow s cap)[k]? =some (.int .u8 (s[k]).toNat):=by
 unfold bytesRow;have h2:k<(s.data.map (fun b=>Value.int .u8 b.toNat)).size:=by simpa using h
 rw[Array.getElem?_append_left h2,Array.getElem?_eq_getElem h2];simp;rfl
def a8e (m k:Nat):Bool:=match symC[m*9+k]? with|some (.bool b)=>b|_=>false
def d3h (m:Nat):Array Value:= #[.bool (a8e m 0),.bool (a8e m 1),.bool (a8e m 2),.bool (a8e m 3),.bool (a8e m 4),.bool (a8e m 5),.bool (a8e m 6),.bool (a8e m 7),.bool (a8e m 8)]
theorem c7o (m:Nat)(hm:m<7)(w:World):(Instr.index 119 (.agg symC) (.int .i64 m)).run prog w= .ok (.agg (d3h m)) w:=by
 rcases (show m=0∨m=1∨m=2∨m=3∨m=4∨m=5∨m=6 from by omega) with rfl|rfl|rfl|rfl|rfl|rfl|rfl <;> kernel_rfl
theorem c7p (r:Nat→Bool)(k:Nat)(hk:k<9)(w:World):(Instr.index 118 (.agg #[.bool (r 0),.bool (r 1),.bool (r 2),.bool (r 3),.bool (r 4),.bool (r 5),.bool (r 6),.bool (r 7),.bool (r 8)]) (.int .i64 k)).run prog w= .ok (.bool (r k)) w:=by
 rcases (show k=0∨k=1∨k=2∨k=3∨k=4∨k=5∨k=6∨k=7∨k=8 from by omega) with rfl|rfl|rfl|rfl|rfl|rfl|rfl|rfl|rfl <;> kernel_rfl
theorem c7q (r:Nat→Bool)(k:Nat)(hk:k<6)(w:World):(Instr.index 126 (.agg #[.bool (r 0),.bool (r 1),.bool (r 2),.bool (r 3),.bool (r 4),.bool (r 5)]) (.int .i64 k)).run prog w= .ok (.bool (r k)) w:=by
 rcases (show k=0∨k=1∨k=2∨k=3∨k=4∨k=5 from by omega) with rfl|rfl|rfl|rfl|rfl|rfl <;> kernel_rfl
theorem a2c {P:Program}{ops:Array Oper}{rest:List Oper}{o:Oper}{a:Act}{w:World}{Q:Exit→Act→World→Prop}(hg:o.guard=none)(t:TypeId)(x y:Operand)(ho:o.op= .index t x y)(vx vy v:Value)(hx:a.eval x=vx)(hy:a.eval y=vy)
 (hv:(Instr.index t vx vy).run P w= .ok v w) (h:wpList P ops Q rest (a.put o.dst v) w):wpList P ops Q (o::rest) a w:=by
 refine wpList_plain hg fun K hK=> ?_
 unfold Oper.wp execOp;simp only[ho,hx,hy,Sem.run_bind,hv];simp only[Result.andThen_ok,Sem.run_pure];exact hK _ _ h
def upE (up:Bool)(en:List (a0o×Int))(p:a0o)(id:Int):List (a0o×Int):=if up then b3o en p id else en
def b3r (i j:Int)(k:Nat):a0o:=(i+(k:Int).tmod 3-1,j+(k:Int).tdiv 3-1)
def c4o (i j id:Int)(r:Nat→Bool):Nat→List (a0o×Int)
 |0=>[]
 |k+1=>upE (r k) (c4o i j id r k) (b3r i j k) id
def a9v (i j:Int)(k n:Nat):a0o:=(i+3+3*k+(n:Int).tdiv 3,j+1-(n:Int).tmod 3)
def c6r (i j id:Int)(k:Nat)(d:Nat→Bool)(en:List (a0o×Int)):Nat→List (a0o×Int)
 |0=>en
 |n+1=>upE (d n) (c6r i j id k d en n) (a9v i j k n) id
def b0s (i j id:Int)(D:Nat→Nat→Bool)(en:List (a0o×Int)):Nat→List (a0o×Int)
 |0=>en
 |k+1=>c6r i j id k (D k) (b0s i j id D en k) 6
def a5i (i j id:Int)(r:Nat→Bool)(D:Nat→Nat→Bool)(n:Nat):List (a0o×Int):=b0s i j id D (c4o i j id r 9) n
abbrev shC (s:Sh):Array Value:= #[.int .i64 s.ax,.int .i64 s.ay,.int .i64 s.st,.int .i64 s.w,.int .i64 s.h,.int .i64 s.g]
structure PI (s:Sh)(pl:Array Value)(w:World)(Bs Bp mb n:Nat)(en:List (a0o×Int))(W:World):Prop where
 map:∃k,k≤n∧MapIs W mb k en
 sheet:Blk W Bs (shC s) 28
 place:Blk W Bp pl 66
 below:Below w.heap.size w W
 le:w.heap.size≤mb
 nes:Bs≠mb
 nep:Bp≠mb
section
variable {s:Sh}{pl:Array Value}{w W:World}{Bs Bp mb n:Nat}{en:List (a0o×Int)}
theorem PI.grown {W':World}(h:PI s pl w Bs Bp mb n en W)(hg:W.grownBy W' none):PI s pl w Bs Bp mb n en W':=by
 obtain⟨⟨k,hk,hM⟩,h1,h2,h3,h4,h5,h6⟩:=h;exact⟨⟨k,hk,hM.kept hg (by simp)⟩,h1.kept hg (by simp),h2.kept hg (by simp),h3.grown hg h3.size (fun k e=>by cases e),h4,h5,h6⟩
theorem PI.grow (h:PI s pl w Bs Bp mb n en W)(p:Growth):PI s pl w Bs Bp mb n en (W.growBy p):=h.grown (a0z W p)
theorem PI.up {n':Nat}(h:PI s pl w Bs Bp mb n en W)(hn:n≤n'):PI s pl w Bs Bp mb n' en W:=by
 obtain⟨⟨k,hk,hM⟩,h1,h2,h3,h4,h5,h6⟩:=h;exact⟨⟨k,by omega,hM⟩,h1,h2,h3,h4,h5,h6⟩
theorem PI.put {W':World}{D:DataW Unit}{k:Nat}{p:a0o}{x:Int}(h:PI s pl w Bs Bp mb n en W)(hk:k≤n)(hD:IsMap D)(h1:(en.map (·.1)).Nodup)(h2:∀e∈en,a7g e.1)
 (h3:∀p,a7g p→has D (klS p)=a9n en p∧D.atKey (klS p) (.lit (.int .i64 0))= .lit (.int .i64 ((a5m en p).getD 0))) (hp:a7g p)
 (ho:W'.ownsMap prog 122 (plainElem prog 3) mb (k+1) (D.put (klS p) (.lit (.int .i64 x)))) (hg:W.grownBy W' (some mb)):PI s pl w Bs Bp mb (n+1) (b3o en p x) W' :=
 ⟨⟨k+1,by omega,MapIs.store (W:=W) hD h1 h2 h3 hp ho⟩,h.sheet.kept hg (fun e=>h.nes (Option.some.inj e).symm),h.place.kept hg (fun e=>h.nep (Option.some.inj e).symm),h.below.grown hg h.below.size (fun k e=>by cases e;exact h.le),h.le,h.nes,h.nep⟩
theorem PI.turn {W':World}{q:Nat}(h:PI s pl w Bs Bp mb n en W)(hg:W.grownBy W' (some q))(h1:q≠Bs)(h2:q≠Bp)(h3:q≠mb)(h4:w.heap.size≤q):PI s pl w Bs Bp mb n en W':=by
 obtain⟨⟨k,hk,hM⟩,k1,k2,k3,k4,k5,k6⟩:=h;exact⟨⟨k,hk,hM.kept hg (fun e=>h3 (Option.some.inj e))⟩,k1.kept hg (fun e=>h1 (Option.some.inj e)),k2.kept hg (fun e=>h2 (Option.some.inj e)),k3.grown hg k3.size (fun k e=>by cases e;exact h4),k4,k5,k6⟩
end
theorem b2q (u:Bool)(en:List (a0o×Int))(p:a0o)(id:Int):(upE u en p id).length≤en.length+1:=by
 unfold upE;split
 ·exact b8j _ _ _
 ·omega
theorem b0t (i j id:Int)(r:Nat→Bool):∀k,(c4o i j id r k).length≤k
 |0=>yR _
 |k+1=>Nat.le_trans (b2q _ _ _ _) (by have:=b0t i j id r k;omega)
theorem b0u (i j id:Int)(k:Nat)(d:Nat→Bool)(en:List (a0o×Int)):∀n,(c6r i j id k d en n).length≤en.length+n
 |0=>yR _
 |n+1=>Nat.le_trans (b2q _ _ _ _) (by have:=b0u i j id k d en n;omega)
theorem a8y (i j id:Int)(D:Nat→Nat→Bool)(en:List (a0o×Int)):∀k,(b0s i j id D en k).length≤en.length+6*k
 |0=>yR _
 |k+1=>Nat.le_trans (b0u i j id k (D k) _ 6) (by have:=a8y i j id D en k;omega)
end
end Go.Proofs.YtfocdbjceedagaaGreatDoor
