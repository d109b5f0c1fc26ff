/-
  Parts.
-/
import Derived.Test.YteijfnkidefekaaGreatEaa
import Derived.Shelf.SlGeneric
import Derived.Shelf.SlicesE.Clone
import Derived.Shelf.SlicesQ.Index
import Derived.Shelf.SlicesQ.IndexFunc
import Derived.Ground.SlgnProg
import Derived.Ground.SlgqProg
import Derived.Shelf.GgSortFunc.RowK
import Derived.Shelf.SlSortCmp.InsertionK
import Derived.Shelf.Strings.Builder1
import Derived.Shelf.AbstractIn
import Derived.Shelf.SlSortCmp.QuietGrown
set_option linter.unusedVariables false
set_option linter.unusedSimpArgs false
set_option linter.unusedSectionVars false
set_option maxHeartbeats 1000000
set_option maxRecDepth 100000
namespace Go.Proofs.YteijfnkidefekaaGreat
open Tryz
section
open Go.RowKit
structure Lb where
 id:Int
 x:Int
 y:Int
 r:Int
 txt:ByteArray
 unt:Int
instance : DecidableEq Lb:=λa b =>
 if h:a.id=b.id/\a.x=b.x/\a.y=b.y/\a.r=b.r/\a.txt=b.txt/\a.unt=b.unt then .isTrue (by cases a;cases b;simp_all)else .isFalse (λe=>h (by subst e;simp))
theorem a5c {k:IntKind}{a b:Int}(h:a=b):Ending.returned (.int k a)= .returned (.int k b):=by rw[h]
end
section
open Go.RowKit Go.Maps
structure Ky (α:Type) where
 t:TypeId
 val:α->Value
 kl:α->Lit
 Ok:α->Prop
structure Ky.Law {α:Type}(K:Ky α)(P:Program):Prop where
 law:Keyed P K.t
 key:∀ {p},K.Ok p->keyOf P K.t (K.val p)=some (K.kl p)
 inv:∀ {v l},keyOf P K.t v=some l->∃p,K.Ok p/\v=K.val p/\l=K.kl p
 vinj:∀ {p q},K.val p=K.val q->p=q
section
variable {α:Type}{K:Ky α}{P:Program}
theorem Ky.Law.inj (L:K.Law P){p q:α}(hp:K.Ok p)(hq:K.Ok q)(h:K.kl p=K.kl q):p=q:=by
 have h1:=L.key hp;rw[h]at h1;exact L.vinj (L.law.inj h1 (L.key hq))
theorem Ky.Law.lit (L:K.Law P){p:α}(hp:K.Ok p):WideAt.IsKeyLit (K.kl p):=L.law.key (L.key hp)
variable [DecidableEq α]{β:Type}
theorem Ky.Law.same (L:K.Law P){p q:α}(hp:K.Ok p)(hq:K.Ok q):(K.kl p).sameKey (K.kl q)=decide (p=q):=by
 by_cases h:p=q
 ·subst h
  simp[WideAt.sameKey_self (L.lit hp)]
 ·simp only[h,decide_false]
  cases hs:(K.kl p).sameKey (K.kl q)
  ·rfl
  ·exact absurd (L.inj hp hq (WideAt.sameKey_eq hs)) h
def idG (l:List (α×β))(p:α):Option β:=(l.find? λe=>decide (e.1=p)).map (·.2)
def b2c (l:List (α×β))(p:α):Bool:=l.any λe=>decide (e.1=p)
def a7a (l:List (α×β))(p:α)(x:β):List (α×β):=if b2c l p then l.map (λe=>if e.1=p then(p,x)else e)else l++[(p,x)]
theorem hasG_iff {l:List (α×β)}{p:α}:b2c l p=true↔p∈l.map (·.1):=by
 unfold b2c;rw[List.any_eq_true];constructor
 ·rintro⟨e,he,h⟩
  exact List.mem_map.2 ⟨e,he,by simpa using h⟩
 ·intro h
  obtain⟨e,he,h⟩:=List.mem_map.1 h;exact⟨e,he,by simpa using h⟩
theorem a8d (l:List (α×β))(p:α)(x:β):(a7a l p x).map (·.1)=if b2c l p then l.map (·.1)else l.map (·.1)++[p]:=by
 unfold a7a;split
 ·rw[List.map_map]
  refine List.map_congr_left λe _=> ?_
  by_cases h:e.1=p
  ·simp[h]
  ·simp[h]
 ·simp
theorem b6r (l:List (α×β))(p q:α)(x:β):b2c (a7a l p x) q=(decide (q=p)||b2c l q):=by
 rw[Bool.eq_iff_iff,hasG_iff,a8d,Bool.or_eq_true,decide_eq_true_iff];rw[show(b2c l q=true)=(q∈l.map (·.1))from propext hasG_iff];split
 ·rename_i h
  have:=hasG_iff.1 h;constructor
  ·exact .inr
  ·rintro(rfl|h')
   ·exact this
   ·exact h'
 ·simp[or_comm]
theorem b9s (p q:α)(x:β)(hq:¬q=p):∀l:List (α×β),idG (l.map λe=>if e.1=p then(p,x)else e) q=idG l q
 |[]=>rfl
 |a::l=>by
  have ih:=b9s p q x hq l;have an:¬p=q:=λh=>hq h.symm
  unfold idG at ih ⊢;by_cases ha:a.1=p
  ·simpa[ha,an]using ih
  ·by_cases Dg:a.1=q
   ·have hf:List.find? (λe=>decide (e.1=q)) (List.map (λe=>if e.1=p then(p,x)else e) (a::l))=some a:=by rw[List.map_cons,if_neg ha,List.find?_cons];simp[Dg]
    rw[hf];simp[Dg]
   ·rw[List.map_cons,if_neg ha,List.find?_cons,List.find?_cons]
    simp only[Dg,decide_false];exact ih
theorem a7b (p:α)(x:β):∀l:List (α×β),b2c l p=true->idG (l.map λe=>if e.1=p then(p,x)else e) p=some x
 |[],h=>by simp[b2c]at h
 |a::l,h=>by
  by_cases ha:a.1=p
  ·simp[idG,ha]
  ·have ih:=a7b p x l (by simpa[b2c,ha]using h)
   unfold idG at ih ⊢;simpa[ha]using ih
theorem b4l (l:List (α×β))(p q:α)(x:β):idG (a7a l p x) q=if q=p then some x else idG l q:=by
 unfold a7a;split
 ·rename_i h
  by_cases hq:q=p
  ·subst hq
   rw[if_pos rfl];exact a7b q x l h
  ·rw[if_neg hq]
   exact b9s p q x hq l
 ·rename_i h
  unfold idG;rw[List.find?_append];by_cases hq:q=p
  ·subst hq
   have:l.find? (λe=>decide (e.1=q))=none:=by
    rw[List.find?_eq_none];intro e he hh;exact h (by unfold b2c;exact List.any_eq_true.2 ⟨e,he,hh⟩)
   simp[this]
  ·have h1:¬p=q:=λe=>hq e.symm
   simp[h1,hq]
theorem a5d (l:List (α×β))(p:α)(x:β):(a7a l p x).length=if b2c l p then l.length else l.length+1:=by
 unfold a7a;split <;> simp
structure Ve (β:Type) where
 t:TypeId
 lit:β->Lit
 z:β
variable {V:Ve β}{W W':Wd}{b n:Nat}{l:List (α×β)}
end
end
section
open Go.RowKit Go.Shelf Go.Lib
structure Pc where
 id:Int
 x:Int
 y:Int
 cls:ByteArray
 nm:ByteArray
 wt:Int
 ds:Int
instance : Inhabited Pc:=⟨⟨0,0,0,⟨#[]⟩,⟨#[]⟩,0,0⟩⟩
abbrev plE :El Pc:=⟨48,7,λp=>[.int .i64 p.id,.int .i64 p.x,.int .i64 p.y,.string p.cls,.string p.nm,.int .i64 p.wt,.int .i64 p.ds]⟩
theorem a2n :plE.Ok:=⟨λ_=>rfl,jM,λx u hu=>by
 simp at hu;rcases hu with rfl|rfl|rfl|rfl|rfl|rfl|rfl <;> rfl⟩
theorem b9t :plE.In prog 30:=El.in_of (z:= .agg #[.int .i64 0,.int .i64 0,.int .i64 0,.string ⟨#[]⟩,.string ⟨#[]⟩,.int .i64 0,.int .i64 0]) (s:=7) (bytes:=72) underlying30 zM rfl xM rfl
structure PcOk (p:Pc):Prop where
 id:a0l p.id
 x:a0l p.x
 y:a0l p.y
 wt:a0l p.wt
 nm:p.nm.size<=1000
def Frm (v:Vu)(n:Nat):Prop:=v= .slice none 0 0\/∃b off cap,v= .slice (some ⟨b,off,none⟩) n cap
theorem Lst.flat {α:Type}{E:El α}{n₀:Nat}{W:Wd}{l:List α}{b off cap:Nat}(hE:E.Ok)(h:Lst E n₀ W (.slice (some ⟨b,off,none⟩) l.length cap) l):∀j u,(l.flatMap E.enc)[j]? =some u->W.cell? ⟨b,off+j,none⟩=some u:=by
 intro j u hj;have ab:=(List.getElem?_eq_some_iff.1 hj).1;rw[a0t hE]at ab;have hs:=hE.pos;have hq:j / E.s<l.length:=(Nat.div_lt_iff_lt_mul hs).2 ab;have hr:j % E.s<E.s:=Nat.mod_lt _ hs;obtain⟨b',dK,bk,e,-,-,hc⟩:=h.some_ (Nat.lt_of_le_of_lt (Nat.zero_le _) hq);simp only[Value.slice.injEq,Option.some.injEq,Addr.mk.injEq]at e;obtain⟨⟨rfl,rfl,-⟩,-,-⟩:=e;have h1:=hc _ hq _ hr;have h2:=b0i hE l (j / E.s) (j % E.s) hq hr;have e1:j / E.s*E.s+j % E.s=j:=by rw[Nat.mul_comm];exact Nat.div_add_mod j E.s
 rw[Nat.add_assoc,e1,<-h2,e1,hj]at h1;exact h1
theorem a2q {α:Type}{E:El α}(hE:E.Ok)(l:List α):∀u∈l.flatMap E.enc,u.oneCell'=true:=by
 intro u hu;obtain⟨x,-,h⟩:=List.mem_flatMap.1 hu;exact hE.one x u h
end
section
open Go Go.RowKit
structure KeepC (C:World->Nat->Prop)(A B:Wd):Prop where
 size:A.heap.size<=B.heap.size
 same:∀k,k<A.heap.size->¬C A k->B.heap[k]? =A.heap[k]?
 mine:∀k,C B k->C A k\/A.heap.size<=k
end
section
open Go.RowKit Go.Shelf Go.Maps
section
theorem a0d (W:Wd)(b i:Nat)(v:Vu):W.grownBy (W.setCell ⟨b,i,none⟩ v) (some b) :=
 ⟨rfl,rfl,rfl,by unfold World.setCell;simp,λk _ hk=>Below.heap_setCell _ _ _ k (λe=>hk (by rw[e]))⟩
end
end
section
open Go.RowKit Go.Shelf Go.Lib Go.Sort
theorem a0f {n:Nat}{w w':Wd}{o:Option Nat}(hg:w.grownBy w' o)(hn:n<=w.heap.size)(h:∀k,o=some k->n<=k):Below n w w' :=
 ⟨hg.os,hg.tape,hg.output,hg.size,λk hk=>hg.block k (Nat.lt_of_lt_of_le hk hn) (λe=>by have:=h k e.symm;omega)⟩
end
section
open Go Go.RowKit Go.Shelf
section
variable {α:Type}{E:El α}{P:Program}{st:Td}
theorem El.append_join (hE:E.Ok)(hI:E.In P st)(W:Wd)(base:Nat)(v xv:Vu)(l l2:List α)(ty:Td)(hv:W.ownsRow base E.t E.s v l.length (l.flatMap E.enc))(iC:∃g c,v= .slice (some ⟨g,0,none⟩) l.length c){n0:Nat}(hx:Lst E n0 W xv l2)(hf:Frm xv l2.length)(hl:l.length+l2.length<=100000)(hb:base<=W.heap.size) :
 ∃v' W',(Builtin.append_ #[st,st] ty #[v,xv]).run P W= .ok v' W'/\W'.ownsRow base E.t E.s v' (l++l2).length ((l++l2).flatMap E.enc)/\W.grownBy W' v.ownBlock/\Below base W W'/\∃g cap,v'= .slice (some ⟨g,0,none⟩) (l++l2).length cap:=by
 obtain⟨i0,z,bV,dm,aH,bn,gm⟩:=hI.info;obtain⟨g,c,rfl⟩:=iC;by_cases an:l2=[]
 ·subst an
  have hs:Src P i0.size st xv 0 [] W:=by
   exact yen
  have dZ:l.length+0<=c:=by
   exact yej
  have hr:=run_append_room_src (P:=P) W st st ty E.t i0 hI.under bV g 0 l.length c xv 0 [] hs dZ vM vM;refine⟨_,_,hr,?_,?_,?_,g,c,?_⟩
  ·rw[List.append_nil];exact hv
  ·exact⟨rfl,rfl,rfl,yR _,λ_ _ _=>rfl⟩
  ·exact⟨rfl,rfl,rfl,yR _,λ_ _=>rfl⟩
  ·rw[List.append_nil];rfl
 ·have jW:0<l2.length:=List.length_pos_iff.2 an
  obtain⟨b,off,cap,rfl,dq,bz,-⟩:=hx.some_ jW;have eM:∀j u,(l2.flatMap E.enc)[j]? =some u->W.cell? ((⟨b,off,none⟩:Addr).add j)=some u:=λj u hj=>by
   exact yij
  obtain⟨v',W',hr,aA,hg,-,-⟩:=run_append_own_at (P:=P) W base st ty E.t i0 _ E.s i0.bytes hI.under bV dm aH rfl gm hE.pos _ l.length _ hv ⟨b,off,none⟩ l2.length cap (l2.flatMap E.enc) (a0t hE l2) eM (a2q hE l2) gM (Nat.le_trans (Nat.mul_le_mul (show l.length+l2.length<=100000 by omega) bn) jM) hb;have mY:∃g cap,v'= .slice (some ⟨g,0,none⟩) (l++l2).length cap:=by
   exact yif
  refine⟨v',W',hr,?_,hg,a0f hg hb (λk e=>(hv.lt k e).1),mY⟩;exact yiw
end
end
section
open Go.RowKit Go.Shelf
variable{b:Act}{k:Nat}{v:Vu}
structure Sh where
 ax:Int
 ay:Int
 st:Int
 w:Int
 h:Int
 g:Int
def inR (lo n hi:Int):Bool:=decide (lo<=n)&&decide (n<=hi)
theorem c5i (n m:Int)(hm:1<=m):(n.tmod m+m) % m=n % m:=by
 rw[Int.add_emod_right,Int.tmod_eq_emod];split
 ·rw[Int.natCast_zero,Int.sub_zero,Int.emod_emod_of_dvd _ (Int.dvd_refl m)]
 ·rw[Int.natAbs_of_nonneg xM,Int.sub_emod_right,Int.emod_emod_of_dvd _ (Int.dvd_refl m)]
theorem a3w (n m:Int)(w:Wd)(hn:a0l n)(h1:1<=m)(h2:m<=4611686018427387904):
 Calls prog 85 #[.int .i64 n,.int .i64 m] w λr w'=>r= .returned (.int .i64 (n % m))/\w=w':=by
 obtain⟨n0,n1⟩:=hn;have b0:=Int.lt_tmod_of_pos n (b:=m) xM;have b1:=Int.tmod_lt_of_pos n (b:=m) xM;have b2:0<=n.tmod m+m:=xM;have b3:n.tmod m+m<=9223372036854775807:=xM;have h0:(m==0)=false:=by simp;omega
 have HM:=Lib.hid (c5i n m h1);go_enter func85,ntmps85;go_wp2_with fail;go_ret;exact⟨a5c HM.out,rfl⟩
theorem b2d (n lo hi:Int)(w:Wd):
 Calls prog 163 #[.int .i64 n,.int .i64 lo,.int .i64 hi] w λe w'=>e= .returned (.bool (inR lo n hi))/\w=w':=by
 go_enter func163,ntmps163;go_wp2_with fail
 all_goals
  go_ret;exact⟨by unfold inR;first|rfl|(congr 2;simp;omega),rfl⟩
def c2x :Array Value:= #[.int .i64 1,.int .i64 3,.int .i64 9,.int .i64 25,.int .i64 17,.int .i64 11,.int .i64 27,.int .i64 19,.int .i64 10,.int .i64 26,.int .i64 5,.int .i64 7,.int .i64 13,.int .i64 29,.int .i64 21,.int .i64 15,.int .i64 31,.int .i64 23,.int .i64 14,.int .i64 30,.int .i64 37,.int .i64 39,.int .i64 58,.int .i64 45,.int .i64 61,.int .i64 53]
theorem a3z {w w':Wd}(h:Below w.heap.size w w'):w.grownBy w' none:=⟨h.os,h.tape,h.output,h.size,λk hk _=>h.block k hk⟩
theorem a0c {W W':Wd}{base:Nat}{e:Td}{size:Nat}{xs:List Value}(h:W.ownsRow base e size v k xs)(hb:Below W.heap.size W W'):W'.ownsRow base e size v k xs:=a6z h (a3z hb) (λr e=>by cases e)
theorem a0a (h:b.eval (.tmp k)=v):b.tmps[k]?.getD undef=v:=by
 rw[<-h];simp[Act.eval]
theorem a1y (h:b.eval (.tmp k)=v)(hk:k<b.tmps.size):b.tmps[k]? =some v:=by
 have h2:=a0a h;rw[Array.getElem?_eq_getElem hk]at h2 ⊢;exact congrArg some h2
theorem b4m (W:Wd):W.grownBy W.drew none:=⟨rfl,rfl,rfl,yR _,λ_ _ _=>rfl⟩
def one :ByteArray:=⟨#[49]⟩
end
section
open Go.RowKit Go.Shelf Go.Sort Go.Lib Go.Maps
structure Dt where
 x:Int
 y:Int
 k:Int
 i:Int
deriving DecidableEq
end
section
open Go.RowKit Go.Shelf
@[local simp] theorem l0:c2x[0]? =some (.int .i64 1):=rfl
@[local simp] theorem l1:c2x[1]? =some (.int .i64 3):=rfl
@[local simp] theorem l2:c2x[2]? =some (.int .i64 9):=rfl
@[local simp] theorem l3:c2x[3]? =some (.int .i64 25):=rfl
@[local simp] theorem l4:c2x[4]? =some (.int .i64 17):=rfl
@[local simp] theorem l5:c2x[5]? =some (.int .i64 11):=rfl
@[local simp] theorem l6:c2x[6]? =some (.int .i64 27):=rfl
@[local simp] theorem l7:c2x[7]? =some (.int .i64 19):=rfl
@[local simp] theorem l8:c2x[8]? =some (.int .i64 10):=rfl
@[local simp] theorem l9:c2x[9]? =some (.int .i64 26):=rfl
attribute [local go_sem] l0 l1 l2 l3 l4 l5 l6 l7 l8 l9
end
end Go.Proofs.YteijfnkidefekaaGreat
namespace Go
open Go.RowKit Go.Shelf
theorem World.setCell_id (w:Wd)(b o:Nat)(v:Vu)(h:w.cell? ⟨b,o,none⟩=some v):w.setCell ⟨b,o,none⟩ v=w:=by
 obtain⟨heap,tape,drawn,os,output⟩:=w;unfold World.setCell;simp only[World.mk.injEq,and_true];apply Array.ext_getElem?;intro i;simp only[Array.getElem?_modify];by_cases hb:b=i
 ·subst hb
  unfold World.cell? at h;simp only[if_true]
  cases hx:heap[b]? with
  |none=>rfl
  |some x =>
   rw[show({ heap:=heap,tape:=tape,drawn:=drawn,os:=os,output:=output }:World).heap[b]? =some x from hx]at h
   cases x <;> try rfl
   rename_i c t f;simp at h ⊢;have h':c[o]? =some v:=h;obtain⟨hl,hv⟩:=Array.getElem?_eq_some_iff.1 h';apply Array.ext_getElem?;intro j;rw[Array.getElem?_setIfInBounds];split
   ·rename_i e;subst e;exact h'.symm
   ·rfl
 ·simp[hb]
end Go
namespace Go.Proofs.YteijfnkidefekaaGreat
open Go.RowKit Go.Shelf
def Ints (n₀:Nat)(W:Wd)(sv:Vu)(xs:List Int):Prop :=
 ∃a cap,sv= .slice a xs.length cap/\∀j,(h:j<xs.length)->∃b off,a=some ⟨b,off,none⟩/\b<n₀/\a0l xs[j]/\W.cell? ⟨b,off+j,none⟩=some (.int .i64 xs[j])
theorem Ints.below {n₀:Nat}{A B:Wd}(h:Below n₀ A B){sv:Vu}{xs:List Int}:Ints n₀ A sv xs->Ints n₀ B sv xs
 |⟨a,cap,e,f⟩=>⟨a,cap,e,λj hj=>by
  obtain⟨b,off,h1,h2,h3,h4⟩:=f j hj;exact⟨b,off,h1,h2,h3,(h.cell (p:=⟨b,off+j,none⟩) h2).trans h4⟩⟩
def b4n (xs:List Int)(j:Nat)(m:Int):Int:=xs.getD j 0 % m
theorem c3c (xs:List Int)(j:Nat){m:Int}(h:1<=m):0<=b4n xs j m/\b4n xs j m<m:=⟨Int.emod_nonneg _ xM,Int.emod_lt_of_pos _ xM⟩
theorem Below.of_grown {n₀:Nat}{W W':Wd}{row:Option Nat}(hg:W.grownBy W' row)(hn:n₀<=W.heap.size)(hr:∀r,row=some r->n₀<=r):Below n₀ W W' :=
 ⟨hg.os,hg.tape,hg.output,hg.size,λi hi=>hg.block i xM (λe=>by have:=hr i e.symm;omega)⟩
theorem b0j (W:Wd)(b i:Nat)(v:Vu)(p:Growth):W.grownBy ((W.setCell ⟨b,i,none⟩ v).growBy p) (some b):=by
 refine⟨rfl,rfl,rfl,by simp,λk hk an=> ?_⟩;rw[World.heap_growBy _ _ (by simpa using hk)];exact Below.heap_setCell _ _ _ _ (λe=>an (by rw[e]))
end Go.Proofs.YteijfnkidefekaaGreat
namespace Go.Proofs.YteijfnkidefekaaGreat
open Tryz
section
open Go.RowKit Go.Shelf
section
variable {H:Type}{enc:TypeId×Value->H}{P:Program}{W:Wd}{base:Nat}{sp:Nat->Bool}{hd:Bool}{t e:Td}{v:Vu}
theorem a7s (z:Int)(h:(Lit.int .i64 z).wf=true):a0l z:=by
 exact yjz
instance : Inhabited Dt:=⟨⟨0,0,0,0⟩⟩
end
end
section
open Go.RowKit Go.Shelf
def mx (x y:Int):Int:=if y>x then y else x
def c9s (a b c d:Int):Int:=mx (mx (mx a b) c) d
theorem run_max4 {P:Program}(ts:Array TypeId)(t:Td)(a b c d:Int)(w:Wd):(Builtin.max_ ts t #[.int .i64 a,.int .i64 b,.int .i64 c,.int .i64 d]).run P w= .ok (.int .i64 (c9s a b c d)) w:=by
 simp[Builtin.max_,Builtin.max2,c9s,mx]
instance (n :Int):Decidable (a0l n):=inferInstanceAs (Decidable (_/\_))
instance (p :a3v):Decidable (c9x p):=inferInstanceAs (Decidable (_/\_))
attribute [local go_sem] run_max4
end
section
open Go.RowKit Go.Shelf Go.Maps
structure Wy where
 id:Int
 line:List a3v
 lv:Value
 lvl:Int
 cls:ByteArray
 nm:ByteArray
 st:Bool
 wt:Int
 di:Int
end
section
open Go.RowKit Go.Shelf
variable{a:Act}{c:Array Value}{Q:Exit->Act->World->Prop}{id l r x:Int}{xs:List Int}{D b cap k n n₀ off s:Nat}{o:Oper}{e t:Td}{sv u v z:Vu}{W W' W1 W2 w:Wd}
structure CT where
 k:Nat
 e:TypeId
abbrev CT.int :CT:=⟨0,0⟩
abbrev CT.str :CT:=⟨1,0⟩
abbrev CT.bool :CT:=⟨2,0⟩
abbrev CT.sl (e:Td):CT:=⟨3,e⟩
abbrev CT.any :CT:=⟨4,0⟩
def a2g (t:Td):List CT :=
 if t=3 then [.int]
 else if t=41 then [.int,.int]
 else if t=211 then [.int,.int,.int]
 else if t=71 then [.int,.sl 41,.int,.int]
 else if t=215 then [.int,.sl 211,.int,.int]
 else if t=43 then [.int,.str,.str,.int,.int]
 else if t=46 then [.int,.sl 41,.int,.str,.str,.bool,.int,.int]
 else if t=48 then [.int,.int,.int,.str,.any,.int,.int]
 else []
abbrev a5e (t:Td):Nat:=(a2g t).length
abbrev BS :=Nat->Prop
def SL (S:BS)(W:Wd)(e:Td)(v:Vu)(n:Nat):Prop :=
 ∃a cap,v= .slice a n cap/\n<=cap/\((a=none/\cap=0)\/∃b o c,a=some ⟨b,o*a5e e,none⟩/\S b/\Blk W b c e/\(o+cap)*a5e e<=c.size)
structure CT.ok (S:BS)(W:Wd)(ct:CT)(v:Vu):Prop where
 lt:ct.k<5
 i:ct.k=0->∃x,v= .int .i64 x/\a0l x
 s:ct.k=1->∃s:ByteArray,v= .string s/\s.size<=30
 b:ct.k=2->∃b,v= .bool b
 l:ct.k=3->∃n,n<=100/\SL S W ct.e v n
 a:ct.k=4->∃s:ByteArray,v= .string s
theorem CT.ok_int {S:BS}(h:a0l x):CT.int.ok S W (.int .i64 x):=⟨jM,λ_=>⟨x,rfl,h⟩,λe=>absurd e jM,λe=>absurd e jM,λe=>absurd e jM,λe=>absurd e jM⟩
theorem CT.ok_str {S:BS}{s:Bw}(h:s.size<=30):CT.str.ok S W (.string s):=⟨jM,λe=>absurd e jM,λ_=>⟨s,rfl,h⟩,λe=>absurd e jM,λe=>absurd e jM,λe=>absurd e jM⟩
theorem CT.ok_bool {S:BS}(b:Bool):CT.bool.ok S W (.bool b):=⟨jM,λe=>absurd e jM,λe=>absurd e jM,λ_=>⟨b,rfl⟩,λe=>absurd e jM,λe=>absurd e jM⟩
theorem CT.ok_sl {S:BS}(h:SL S W e v n)(hn:n<=100):(CT.sl e).ok S W v:=⟨by show 3<5;decide,λe=>absurd e (by show ¬3=0;decide),λe=>absurd e (by show ¬3=1;decide),λe=>absurd e (by show ¬3=2;decide),λ_=>⟨n,hn,h⟩,λe=>absurd e (by show ¬3=4;decide)⟩
def TB (S:BS)(W:Wd)(e:Td)(c:Array Value):Prop:=∀(i:Nat) (u:Vu) (ct:CT),c[i]? =some u->(a2g e)[i % a5e e]? =some ct->ct.ok S W u
def TW (S:BS)(W:Wd):Prop:=∀b,S b->∃c e,Blk W b c e/\TB S W e c
def Shp (S:BS)(W W':Wd):Prop:=∀b c e,S b->Blk W b c e->∃c',Blk W' b c' e/\c'.size=c.size
theorem Shp.refl (S:BS)(W:Wd):Shp S W W:=λ_ c _ _ h=>⟨c,h,rfl⟩
theorem Shp.trans {S S1:BS}(h1:Shp S W W1)(h2:Shp S1 W1 W2)(hs:∀b,S b->S1 b):Shp S W W2:=λb c e hb hc=>by
 obtain⟨c1,k1,s1⟩:=h1 b c e hb hc;obtain⟨c2,k2,s2⟩:=h2 b c1 e (hs b hb) k1;exact⟨c2,k2,s2.trans s1⟩
theorem SL.mono {S S':BS}(h:SL S W e v n)(hs:∀b,S b->S' b)(cM:Shp S W W'):SL S' W' e v n:=by
 obtain⟨a,cap,rfl,hn,h|⟨b,o,c,rfl,hb,hc,hl⟩⟩:=h
 ·exact⟨a,cap,rfl,hn,.inl h⟩
 ·obtain⟨c',cB,hz⟩:=cM b c e hb hc
  exact⟨_,cap,rfl,hn,.inr ⟨b,o,c',rfl,hs b hb,cB,xM⟩⟩
theorem CT.ok.mono {S S':BS}{ct:CT}(h:ct.ok S W v)(hs:∀b,S b->S' b)(cM:Shp S W W'):ct.ok S' W' v :=
 ⟨h.lt,h.i,h.s,h.b,λe=>by obtain⟨n,hn,h⟩:=h.l e;exact⟨n,hn,h.mono hs cM⟩,h.a⟩
theorem TB.mono {S S':BS}(h:TB S W e c)(hs:∀b,S b->S' b)(cM:Shp S W W'):TB S' W' e c:=λi u ct h1 h2=>(h i u ct h1 h2).mono hs cM
structure Ev (X:BS)(S:BS)(W:Wd)(S':BS)(W':Wd):Prop where
 sub:∀b,S b->S' b
 new:∀b,S' b->S b\/W.heap.size<=b
 os:W'.os=W.os
 tape:W'.tape=W.tape
 output:W'.output=W.output
 size:W.heap.size<=W'.heap.size
 rest:∀b,b<W.heap.size->¬S b->¬X b->W'.heap[b]? =W.heap[b]?
 shape:Shp S W W'
 ok:TW S' W'
theorem TW.lt {S:BS}(h:TW S W)(hb:S b):b<W.heap.size:=by
 obtain⟨c,e,hc,-⟩:=h b hb;exact hc.lt
theorem Ev.refl {X S:BS}{W:Wd}(h:TW S W):Ev X S W S W:=⟨λ_ h=>h,λ_ h=> .inl h,rfl,rfl,rfl,yR _,λ_ _ _ _=>rfl,Shp.refl _ _,h⟩
theorem Ev.trans {X S S1 S2:BS}(h1:Ev X S W S1 W1)(h2:Ev X S1 W1 S2 W2):Ev X S W S2 W2 :=
 ⟨λb h=>h2.sub b (h1.sub b h),λb h=>by
  rcases h2.new b h with h|h
  ·exact h1.new b h
  ·exact .inr (Nat.le_trans h1.size h),h2.os.trans h1.os,h2.tape.trans h1.tape,h2.output.trans h1.output,Nat.le_trans h1.size h2.size,λb hb hn hx=>by
  have ck:¬S1 b:=λh=>by
   rcases h1.new b h with h|h
   ·exact hn h
   ·omega
  exact(h2.rest b (Nat.lt_of_lt_of_le hb h1.size) ck hx).trans (h1.rest b hb hn hx),h1.shape.trans h2.shape h1.sub,h2.ok⟩
theorem Ev.below {X S S':BS}(h:Ev X S W S' W')(hS:∀b,S b->n<=b)(hX:∀b,X b->n<=b)(hn:n<=W.heap.size):Below n W W' :=
 ⟨h.os,h.tape,h.output,h.size,λb hb=>h.rest b xM (λhs=>by have:=hS b hs;omega) (λhs=>by have:=hX b hs;omega)⟩
theorem Ev.sl {X S S':BS}(h:Ev X S W S' W')(hs:SL S W e v n):SL S' W' e v n:=hs.mono h.sub h.shape
theorem Ev.ct {X S S':BS}(h:Ev X S W S' W'){ct:CT}(hs:ct.ok S W v):ct.ok S' W' v:=hs.mono h.sub h.shape
theorem Ev.blk {X S S':BS}(h:Ev X S W S' W')(hb:Blk W b c t)(hn:¬S b)(hx:¬X b):Blk W' b c t:=(h.rest b hb.lt hn hx).trans hb
theorem Ev.not {X S S':BS}(h:Ev X S W S' W')(hb:b<W.heap.size)(hn:¬S b):¬S' b:=λhs=>by
 rcases h.new b hs with h|h
 ·exact hn h
 ·omega
theorem Ev.of_grown {X S:BS}{row:Option Nat}(hT:TW S W)(hg:W.grownBy W' row)(hr:∀r,row=some r->¬S r/\X r):Ev X S W S W':=by
 have aG:∀b,S b->W'.heap[b]? =W.heap[b]? :=λb hb=>hg.block b (hT.lt hb) (λe=>(hr b e.symm).1 hb)
 have cM:Shp S W W':=λb c e hb hc=>⟨c,(aG b hb).trans hc,rfl⟩
 refine⟨λ_ h=>h,λ_ h=> .inl h,hg.os,hg.tape,hg.output,hg.size,λb hb _ hx=>hg.block b hb (λe=>hx (hr b e.symm).2),cM,λb hb=> ?_⟩;obtain⟨c,e,hc,ht⟩:=hT b hb;exact⟨c,e,(aG b hb).trans hc,ht.mono (λ_ h=>h) cM⟩
theorem Ev.of_below {X S:BS}(hT:TW S W)(h:Below W.heap.size W W'):Ev X S W S W':=Ev.of_grown hT (a3z h) (λr e=>by cases e)
theorem Ev.drew {X S:BS}{W:Wd}(hT:TW S W):Ev X S W S W.drew:=Ev.of_grown hT (b4m W) (λr e=>by cases e)
theorem TW.of_same {S:BS}(hT:TW S W)(h:∀b,S b->W'.heap[b]? =W.heap[b]?):TW S W':=by
 have cM:Shp S W W':=λb c e hb hc=>⟨c,(h b hb).trans hc,rfl⟩
 intro b hb;obtain⟨c,e,hc,ht⟩:=hT b hb;exact⟨c,e,(h b hb).trans hc,ht.mono (λ_ h=>h) cM⟩
theorem TW.none (W:Wd):TW (λ_=>False) W:=λ_ h=>h.elim
theorem Ev.alloc {X S:BS}{W:Wd}(hT:TW S W){c:Array Value}{e:Td}(hc:TB S W e c):Ev X S W (λb=>S b\/b=W.heap.size) (W.alloc (.cells c e)):=by
 have cM:Shp S W (W.alloc (.cells c e)):=λb c' e' hb cB=>⟨c',cB.alloc _,rfl⟩
 refine⟨λ_ h=> .inl h,λb h=>by rcases h with h|rfl;exact .inl h;exact .inr (yR _),rfl,rfl,rfl,by simp,λb hb _ _=>(World.grownBy_alloc W _ none).block b hb vM,cM,λb hb=> ?_⟩;rcases hb with hb|rfl
 ·obtain⟨c',e',cB,ht⟩:=hT b hb
  exact⟨c',e',cB.alloc _,ht.mono (λ_ h=> .inl h) cM⟩
 ·exact⟨c,e,Blk.new W c e,hc.mono (λ_ h=> .inl h) cM⟩
theorem Ev.set {X S:BS}(hT:TW S W)(hb:S b)(hc:Blk W b c e)(i:Nat)(v:Vu)(hv:∀ct,(a2g e)[i % a5e e]? =some ct->ct.ok S W v):Ev X S W S (W.setCell ⟨b,i,none⟩ v):=by
 have cM:Shp S W (W.setCell ⟨b,i,none⟩ v):=λb' c' e' fw cB=>by
  by_cases h:b'=b
  ·subst h
   obtain⟨rfl,rfl⟩:c'=c/\e'=e:=by
    unfold Blk at hc cB;rw[hc]at cB
    cases cB;exact⟨rfl,rfl⟩
   exact⟨_,cB.set i v,by simp⟩
  ·exact⟨c',cB.other h i v,rfl⟩
 refine⟨λ_ h=>h,λ_ h=> .inl h,rfl,rfl,rfl,by simp,λb' _ hn _=>Below.heap_setCell _ _ _ _ (λe=>hn (by simp at e;exact e▸hb)),cM,λb' fw=> ?_⟩;by_cases h:b'=b
 ·subst h
  obtain⟨c0,e0,gV,ht⟩:=hT b' fw;obtain⟨rfl,rfl⟩:c0=c/\e0=e:=by
   exact yhm
  refine⟨_,e0,gV.set i v,λj u ct h1 h2=> ?_⟩;rw[Array.getElem?_setIfInBounds]at h1;split at h1
  ·rename_i cm
   subst cm;split at h1
   ·cases h1
    exact(hv ct h2).mono (λ_ h=>h) cM
   ·cases h1
  ·exact(ht j u ct h1 h2).mono (λ_ h=>h) cM
 ·obtain⟨c0,e0,gV,ht⟩:=hT b' fw
  exact⟨c0,e0,gV.other h i v,ht.mono (λ_ h=>h) cM⟩
theorem Ev.setCells {X S:BS}{b:Nat}{e:Td}(hb:S b):∀(vs:List Value) (o:Nat) (W:Wd) (c:Array Value),TW S W->Blk W b c e->(∀j u ct,vs[j]? =some u->(a2g e)[(o+j) % a5e e]? =some ct->ct.ok S W u)->Ev X S W S (W.setCells b o vs)
 |[],o,W,c,hT,hc,hv=>Ev.refl hT
 |v::r,o,W,c,hT,hc,hv=>by
  have h1:=Ev.set (X:=X) hT hb hc o v (λct h=>hv 0 v ct rfl (by simpa using h));exact h1.trans (Ev.setCells hb r (o+1) _ _ h1.ok (hc.set o v) (λj u ct h2 h3=>h1.ct (hv (j+1) u ct (by simpa using h2) (by rw[show o+(j+1)=o+1+j from by omega];exact h3))))
structure ET (e:Td)(s:Nat):Prop where
 size:a5e e=s
 pos:0<s
 info:∃i z,prog.info? e=some i/\i.zero=some z/\i.size=s/\i.bytes<=1000/\z.cells.size=s/\∀S W (j:Nat) u ct,z.cells[j]? =some u->(a2g e)[j]? =some ct->CT.ok S W ct u
theorem CT.ok.one {S:BS}{ct:CT}(h:ct.ok S W u):u.oneCell'=true:=by
 have hk:=h.lt;rcases(show ct.k=0\/ct.k=1\/ct.k=2\/ct.k=3\/ct.k=4 from xM)with e|e|e|e|e
 ·obtain⟨x,rfl,-⟩:=h.i e;rfl
 ·obtain⟨x,rfl,-⟩:=h.s e;rfl
 ·obtain⟨x,rfl⟩:=h.b e;rfl
 ·obtain⟨n,-,a,cap,rfl,-⟩:=h.l e;rfl
 ·obtain⟨x,rfl⟩:=h.a e;rfl
theorem SL.cells {S:BS}(hT:TW S W)(he:ET e s)(h:SL S W e v n):∃(a:Option Addr) (cap:Nat) (news:List Value),v= .slice a n cap/\n<=cap/\news.length=n*s/\(∀j u,news[j]? =some u->∃ad,a=some ad/\W.cell? (ad.add j)=some u)/\(∀j u ct,news[j]? =some u->(a2g e)[j % s]? =some ct->ct.ok S W u)/\(∀u∈news,u.oneCell'=true)/\(a=none->n=0):=by
 have hs:=he.size;have hp:=he.pos;obtain⟨a,cap,rfl,hn,⟨rfl,rfl⟩|⟨b,o,c,rfl,hb,hc,hl⟩⟩:=h
 ·obtain rfl:n=0:=xM
  exact⟨none,0,[],rfl,yR _,by simp,by simp,by simp,by simp,λ_=>rfl⟩
 ·rw[hs]at hl ⊢
  obtain⟨c0,e0,gV,ht⟩:=hT b hb;obtain⟨rfl,rfl⟩:c0=c/\e0=e:=by
   exact yhm
  have hle:(o+n)*s<=c0.size:=Nat.le_trans (Nat.mul_le_mul_right s xM) hl;rw[Nat.add_mul]at hle;have xz:∀j u,((c0.toList.drop (o*s)).take (n*s))[j]? =some u->c0[o*s+j]? =some u:=λj u h=>by
   rw[List.getElem?_take]at h;split at h
   ·rw[List.getElem?_drop]at h
    simpa using h
   ·cases h
  have Il:∀j u ct,((c0.toList.drop (o*s)).take (n*s))[j]? =some u->(a2g e0)[j % s]? =some ct->ct.ok S W u:=λj u ct h1 h2 =>
   ht (o*s+j) u ct (xz j u h1) (by rw[hs,Nat.mul_comm,Nat.mul_add_mod];exact h2)
  refine⟨_,cap,(c0.toList.drop (o*s)).take (n*s),rfl,hn,by simp;omega,λj u hj=>⟨_,rfl,?_⟩,Il,λu hu=> ?_,λh=>by cases h⟩
  ·rw[Go.WideShapes.add_plain]
   exact(hc.cell _).trans (xz j u hj)
  ·obtain⟨j,hj,rfl⟩:=List.getElem_of_mem hu
   have hm:j % s<(a2g e0).length:=by rw[show(a2g e0).length=s from hs];exact Nat.mod_lt _ hp
   exact(Il j _ _ (List.getElem?_eq_getElem hj) (List.getElem?_eq_getElem hm)).one
theorem b9u {X S:BS}(hT:TW S W){ty:Td}(ht:prog.underlying t=some (.slice e))(he:ET e s){xv:Vu}{m:Nat}(hv:SL S W e sv n)(hx:SL S W e xv m)(hl:n+m<=1000000):
 ∃v' S' W',(Builtin.append_ #[t,t] ty #[sv,xv]).run prog W= .ok v' W'/\SL S' W' e v' (n+m)/\Ev X S W S' W':=by
 obtain⟨i,z,hi,hz,aM,mq,fI,CX⟩:=he.info;have hp:=he.pos;have jP:=he.size;obtain⟨xa,xc,news,rfl,Im,pQ,sI,sG,ck,vy⟩:=hx.cells hT he;have gT:Src prog i.size t (.slice xa m xc) m news W:=by
  exact ydw
 have jO:=hv;obtain⟨a,cap,olds,rfl,CM,oR,kV,HQ,Lp,oS⟩:=hv.cells hT he;by_cases gE:n+m<=cap
 ·obtain⟨a2,mN,h2,-,h3⟩:=jO
  cases h2;rcases h3 with⟨rfl,rfl⟩|⟨b,o,c,rfl,hb,hc,bO⟩
  ·obtain rfl:n=0:=xM
   obtain rfl:m=0:=xM;refine⟨.slice none 0 0,S,W,?_,⟨none,0,rfl,yR _,.inl ⟨rfl,rfl⟩⟩,Ev.refl hT⟩;simp[Builtin.append_,run_underlying ht,sizeOf,typeInfo,hi,gT.len,gT.cells]
  ·rw[jP]at bO ⊢
   have hmul:(n+m)*s<=cap*s:=Nat.mul_le_mul_right s gE;rw[Nat.add_mul]at hmul bO;have cC:∀j,j<news.length->(W.cell? ⟨b,o*s+n*i.size+j,none⟩).isSome=true:=λj hj=>by
    rw[hc.cell,aM,Array.getElem?_eq_getElem xM];rfl
   have hr:=run_append_room_src (P:=prog) W t t ty e i ht hi b (o*s) n cap (.slice xa m xc) m news gT gE cC (λj hj=>hc.frozen _);refine⟨_,S,_,hr,?_,?_⟩
   ·exact yeb
   ·exact ygl
 ·have hold:(Builtin.firstCells i.size n (.slice a n cap)).run prog W.drew= .ok olds.toArray W.drew:=by
   exact ydi
  have aT:=grownCap_ge W (n+m) cap e;have dq:Builtin.nextslicecap (n+m) cap*i.bytes<=281474976710656:=growslice_fits xM (Nat.le_trans (Nat.mul_le_mul hl mq) jM);have hr:=run_append_grow_src (P:=prog) W t t ty e i z ht hi hz a n cap olds hold (.slice xa m xc) m news gT xM xM dq;have CN:=(Ev.drew (X:=X) hT).ok;have wX:=Ev.drew (X:=X) hT;have hB:TB S W.drew e ((olds++news).toArray++Builtin.zeroCells z.cells (grownCap W (n+m) cap e-(n+m))):=by
   exact yap
  have hA:=Ev.alloc (X:=X) CN hB;refine⟨_,_,_,hr,?_,wX.trans hA⟩;exact yec
theorem a7c {X S:BS}(hT:TW S w){K:Act->World->Prop}(sO xO:Operand)(t:Td)(ho:o.op= .call { callee:= .builtin .append,args:= #[sO,xO],argTypes:= #[t,t] })
 {e:Td} {s:Nat} (ht:prog.underlying t=some (.slice e)) (he:ET e s) {sv xv:Vu} {n m:Nat} (bj:a.eval sO=sv) (hv:SL S w e sv n) (aO:a.eval xO=xv) (hx:SL S w e xv m) (hl:n+m<=1000000)
 (h:∀v' S' w',SL S' w' e v' (n+m)->Ev X S w S' w'->K (a.put o.dst v') w'):Oper.wp prog o a w K Q:=by
 obtain⟨v',S',w',hr,h2,h3⟩:=b9u (X:=X) hT (ty:=o.type) ht he hv hx hl;unfold Oper.wp execOp;simp only[ho,resolve,invoke,builtin,Sem.run_bind,Sem.run_pure,Result.andThen_ok,List.map_toArray,List.map_cons,List.map_nil,bj,aO,hr];exact h v' S' w' h2 h3
theorem a1h {X S:BS}(hT:TW S w){ops:Array Oper}{rest:List Oper}(bP:o.guard=none)(sO xO:Operand)(t:Td)(ho:o.op= .call { callee:= .builtin .append,args:= #[sO,xO],argTypes:= #[t,t] })
 {e:Td} {s:Nat} (ht:prog.underlying t=some (.slice e)) (he:ET e s) {sv xv:Vu} {n m:Nat} (bj:a.eval sO=sv) (hv:SL S w e sv n) (aO:a.eval xO=xv) (hx:SL S w e xv m) (hl:n+m<=1000000)
 (h:∀v' S' w',SL S' w' e v' (n+m)->Ev X S w S' w'->wpList prog ops Q rest (a.put o.dst v') w'):wpList prog ops Q (o::rest) a w :=
 wpList_plain bP λ_ hK=>a7c hT sO xO t ho ht he bj hv aO hx hl λv' S' w' h2 h3=>hK _ _ (h v' S' w' h2 h3)
def zOk (ct:CT)(u:Vu):Bool :=
 match u with
 |.int .i64 n=>ct.k==0&&n==0
 |.string s=>(ct.k==1||ct.k==4)&&s.size==0
 |.bool _=>ct.k==2
 |.slice none 0 0=>ct.k==3
 |_=>false
theorem c6s {ct:CT}(h:zOk ct u=true)(S:BS)(W:Wd):ct.ok S W u:=by
 obtain⟨k,e⟩:=ct;unfold zOk at h;split at h
 ·simp only[Bool.and_eq_true,beq_iff_eq]at h
  obtain⟨rfl,rfl⟩:=h;exact⟨by simp,λ_=>⟨0,rfl,⟨jM,jM⟩⟩,λe=>by simp at e,λe=>by simp at e,λe=>by simp at e,λe=>by simp at e⟩
 ·rename_i s
  simp only[Bool.and_eq_true,Bool.or_eq_true,beq_iff_eq]at h;obtain⟨rfl|rfl,h⟩:=h
  ·exact⟨by simp,λe=>by simp at e,λ_=>⟨s,rfl,xM⟩,λe=>by simp at e,λe=>by simp at e,λe=>by simp at e⟩
  ·exact⟨by simp,λe=>by simp at e,λe=>by simp at e,λe=>by simp at e,λe=>by simp at e,λ_=>⟨s,rfl⟩⟩
 ·rename_i b
  simp only[beq_iff_eq]at h;subst h;exact⟨by simp,λe=>by simp at e,λe=>by simp at e,λ_=>⟨b,rfl⟩,λe=>by simp at e,λe=>by simp at e⟩
 ·simp only[beq_iff_eq]at h
  subst h;exact⟨by simp,λe=>by simp at e,λe=>by simp at e,λe=>by simp at e,λ_=>⟨0,xM,none,0,rfl,yR _,.inl ⟨rfl,rfl⟩⟩,λe=>by simp at e⟩
 ·cases h
def c9t (e:Td)(z:Vu):Bool:=(List.range (a5e e)).all λj=>match z.cells[j]?,(a2g e)[j]? with|some u,some ct=>zOk ct u|_,_=>false
theorem c5j (h:c9t e z=true)(S:BS)(W:Wd)(j:Nat)(u:Vu)(ct:CT)(h1:z.cells[j]? =some u)(h2:(a2g e)[j]? =some ct):ct.ok S W u:=by
 have hj:j<a5e e:=(List.getElem?_eq_some_iff.1 h2).1;have h3:=List.all_eq_true.1 h j (List.mem_range.2 hj);rw[h1,h2]at h3;exact c6s h3 S W
theorem b4o {bytes:Nat}(h:(prog.info? e).map (λi=>(i.zero,i.size,i.bytes))=some (some z,s,bytes))(h1:a5e e=s)(h2:0<s)(h3:bytes<=1000)(h4:z.cells.size=s)(h5:c9t e z=true):ET e s:=by
 obtain⟨i,hi,hz,hs,hb⟩:=info_parts h;exact⟨h1,h2,i,z,hi,hz,hs,xM,h4,c5j h5⟩
abbrev edZ :Array Value:= #[.int .i64 0,.slice none 0 0,.int .i64 0,.int .i64 0]
abbrev faZ :Array Value:= #[.int .i64 0,.string ⟨#[]⟩,.string ⟨#[]⟩,.int .i64 0,.int .i64 0]
abbrev c9y :Array Value:= #[.int .i64 0,.slice none 0 0,.int .i64 0,.string ⟨#[]⟩,.string ⟨#[]⟩,.bool false,.int .i64 0,.int .i64 0]
theorem a4y:ET 3 1:=b4o (z:= .int .i64 0) (bytes:=8) zM rfl xM xM rfl zM
theorem a1l:ET 41 2:=b4o (z:= .agg #[.int .i64 0,.int .i64 0]) (bytes:=16) zM rfl xM xM rfl zM
theorem b0k:ET 211 3:=b4o (z:= .agg #[.int .i64 0,.int .i64 0,.int .i64 0]) (bytes:=24) zM rfl xM xM rfl zM
theorem a1u:ET 71 4:=b4o (z:= .agg edZ) (bytes:=48) zM rfl xM xM rfl zM
theorem a5p:ET 215 4:=b4o (z:= .agg edZ) (bytes:=48) zM rfl xM xM rfl zM
theorem a1f:ET 43 5:=b4o (z:= .agg faZ) (bytes:=56) zM rfl xM xM rfl zM
theorem a3l:ET 46 8:=b4o (z:= .agg c9y) (bytes:=96) zM rfl xM xM rfl zM
theorem SL.nil (S:BS)(W:Wd)(e:Td):SL S W e (.slice none 0 0) 0:=⟨none,0,rfl,yR _,.inl ⟨rfl,rfl⟩⟩
theorem SL.blk {S:BS}(hb:S b)(hc:Blk W b c e)(hn:n*a5e e<=c.size):SL S W e (.slice (some ⟨b,0,none⟩) n n) n :=
 ⟨_,n,rfl,yR _,.inr ⟨b,0,c,by rw[Nat.zero_mul],hb,hc,by rw[Nat.zero_add];exact hn⟩⟩
theorem SL.some_ {S:BS}(h:SL S W e v n)(hn:0<n):∃b off cap,v= .slice (some ⟨b,off,none⟩) n cap/\n<=cap/\S b:=by
 obtain⟨a,cap,rfl,h1,⟨rfl,rfl⟩|⟨b,o,c,rfl,hb,-,-⟩⟩:=h
 ·omega
 ·exact⟨b,_,cap,rfl,h1,hb⟩
theorem SL.form {S:BS}(h:SL S W e v n):∃a cap,v= .slice a n cap/\n<=cap:=by
 obtain⟨a,cap,rfl,h1,-⟩:=h;exact⟨a,cap,rfl,h1⟩
theorem SL.cell {S:BS}(hT:TW S W)(he:ET e s)(h:SL S W e (.slice (some ⟨b,off,none⟩) n cap) n)(hk:k<n)(i:Nat)(ct:CT)(p8:(a2g e)[i]? =some ct):
 ∃u,W.cell? ⟨b,off+k*s+i,none⟩=some u/\ct.ok S W u:=by
 obtain⟨a,bk,h0,h1,⟨rfl,rfl⟩|⟨b',o,c,rfl,hb,hc,hl⟩⟩:=h
 ·simp at h0
 ·simp only[Value.slice.injEq,Option.some.injEq,Addr.mk.injEq,and_true,true_and]at h0
  obtain⟨⟨rfl,rfl⟩,rfl⟩:=h0;have hs:=he.size;rw[hs]at hl ⊢;obtain⟨c0,e0,gV,ht⟩:=hT b hb;obtain⟨rfl,rfl⟩:c0=c/\e0=e:=by
   exact yhm
  have hi:i<s:=by rw[<-hs];exact(List.getElem?_eq_some_iff.1 p8).1
  have hle:(o+k+1)*s<=(o+cap)*s:=Nat.mul_le_mul_right s xM;rw[Nat.add_mul,Nat.add_mul,Nat.one_mul]at hle;have ab:o*s+k*s+i<c0.size:=xM;refine⟨c0[o*s+k*s+i],?_,?_⟩
  ·rw[hc.cell,Array.getElem?_eq_getElem ab]
  ·refine ht (o*s+k*s+i) _ ct (Array.getElem?_eq_getElem ab) ?_
   rw[hs,<-Nat.add_mul,Nat.mul_comm,Nat.mul_add_mod,Nat.mod_eq_of_lt hi];exact p8
theorem SL.store {X S:BS}(hT:TW S W)(he:ET e s)(h:SL S W e (.slice (some ⟨b,off,none⟩) n cap) n)(k:Nat)(i:Nat)(ct:CT)(p8:(a2g e)[i]? =some ct)(v:Vu)(hv:ct.ok S W v):
 Ev X S W S (W.setCell ⟨b,off+k*s+i,none⟩ v)/\W.frozen? ⟨b,off+k*s+i,none⟩=false:=by
 obtain⟨a,bk,h0,h1,⟨rfl,rfl⟩|⟨b',o,c,rfl,hb,hc,hl⟩⟩:=h
 ·simp at h0
 ·simp only[Value.slice.injEq,Option.some.injEq,Addr.mk.injEq,and_true,true_and]at h0
  obtain⟨⟨rfl,rfl⟩,rfl⟩:=h0;have hs:=he.size;have hi:i<s:=by rw[<-hs];exact(List.getElem?_eq_some_iff.1 p8).1
  refine⟨Ev.set hT hb hc _ v (λPN h=> ?_),hc.frozen _⟩;rw[hs,<-Nat.add_mul,Nat.mul_comm,Nat.mul_add_mod,Nat.mod_eq_of_lt hi,p8]at h
  cases h;exact hv
theorem SL.take {S:BS}{a:Option Addr}(h:SL S W e (.slice a n cap) n)(hk:k<=n):SL S W e (.slice a k cap) k:=by
 obtain⟨a',bk,h0,h1,h2⟩:=h
 cases h0;exact⟨a,cap,rfl,xM,h2⟩
theorem SL.drop {S:BS}{o2:Nat}(hs:a5e e=s)(h:SL S W e (.slice (some ⟨b,off,none⟩) n cap) n)(hk:k<=n)(ho:o2=off+k*s\/(k=cap/\o2=off)):SL S W e (.slice (some ⟨b,o2,none⟩) (n-k) (cap-k)) (n-k):=by
 obtain⟨a',bk,h0,h1,⟨rfl,rfl⟩|⟨b',o,c,rfl,hb,hc,hl⟩⟩:=h
 ·simp at h0
 ·simp only[Value.slice.injEq,Option.some.injEq,Addr.mk.injEq,and_true,true_and]at h0
  obtain⟨⟨rfl,rfl⟩,rfl⟩:=h0;rw[hs]at hl;rcases ho with rfl|⟨rfl,rfl⟩
  ·exact⟨_,_,rfl,xM,.inr ⟨b,o+k,c,by rw[hs,Nat.add_mul],hb,hc,by rw[hs,show o+k+(cap-k)=o+cap from by omega];exact hl⟩⟩
  ·exact⟨_,_,rfl,xM,.inr ⟨b,o,c,by rw[hs],hb,hc,by rw[hs,Nat.sub_self,Nat.add_zero];exact Nat.le_trans (Nat.mul_le_mul_right s xM) hl⟩⟩
theorem b4p {S:BS}(he:a5e e=s)(hc:c.size=s)(h:∀(i:Nat)(u:Vu)(ct:CT),c[i]? =some u->(a2g e)[i]? =some ct->ct.ok S W u):TB S W e c:=λi u ct h1 h2=>by
 have hi:i<s:=by rw[<-hc];exact(Array.getElem?_eq_some_iff.1 h1).1
 rw[he,Nat.mod_eq_of_lt hi]at h2;exact h i u ct h1 h2
theorem a3x {S:BS}{y:Int}(hx:a0l x)(hy:a0l y):TB S W 41 #[.int .i64 x,.int .i64 y]:=b4p rfl rfl λi u ct h1 h2=>by
 match i,h1,h2 with
 |0,h1,h2=>cases h1;cases h2;exact CT.ok_int hx
 |1,h1,h2=>cases h1;cases h2;exact CT.ok_int hy
 |i+2,h1,_=>simp at h1
theorem b6s {S:BS}:TB S W e #[]:=λi u ct h1 _=>by simp at h1
theorem a8e {S:BS}(hi:a0l id)(hl:a0l l)(hr:a0l r)(hv:SL S W 41 v n)(hn:n<=100):TB S W 71 #[.int .i64 id,v,.int .i64 l,.int .i64 r]:=b4p rfl rfl λi u ct h1 h2=>by
 exact yet
theorem c3d {S:BS}(hi:a0l id)(hl:a0l l)(hr:a0l r)(hv:SL S W 211 v n)(hn:n<=100):TB S W 215 #[.int .i64 id,v,.int .i64 l,.int .i64 r]:=b4p rfl rfl λi u ct h1 h2=>by
 exact yet
def b2e (n:Nat):Prop:=n<=9223372036854775807
structure TD (S:BS)(n₀ D:Nat)(sv:Vu)(xs:List Int)(W:Wd):Prop where
 tw:TW S W
 box:∃j:Nat,j<=xs.length/\Blk W D #[sv,.int .i64 (j:Nat)] 112
 ints:Ints n₀ W sv xs
 le:n₀<=D
 len:b2e xs.length
 low:∀b,S b->n₀<=b
 not:¬S D
abbrev a7d (D:Nat):BS:=λb=>b=D
theorem TD.lt {S:BS}(h:TD S n₀ D sv xs W):D<W.heap.size:=by obtain⟨j,-,hb⟩:=h.box;exact hb.lt
theorem TD.ev {X S S':BS}(h:TD S n₀ D sv xs W)(he:Ev X S W S' W')(hX:∀b,X b->n₀<=b/\b≠D):TD S' n₀ D sv xs W':=by
 have ab:=h.lt;obtain⟨j,hj,hb⟩:=h.box;have dv:∀b,S' b->n₀<=b:=λb hb=>by
  rcases he.new b hb with h1|h1
  ·exact h.low b h1
  ·have:=h.le;omega
 have aW:Below n₀ W W':=he.below h.low (λb hb=>(hX b hb).1) (by have:=h.le;omega);exact⟨he.ok,⟨j,hj,he.blk hb h.not (λhx=>(hX D hx).2 rfl)⟩,h.ints.below aW,h.le,h.len,dv,he.not ab h.not⟩
theorem b9v (n₀ D j:Nat)(xs:List Int)(sv:Vu)(m v:Int)(w:Wd)(hv:b4n xs j m=v)(dy:1<=m)(b8:m<=4611686018427387904)(hD:n₀<=D)(hI:Ints n₀ w sv xs)(hj:j<=xs.length)(hlen:b2e xs.length)(hB:Blk w D #[sv,.int .i64 (j:Nat)] 112):
 Calls prog 43 #[.pointer (some ⟨D,0,none⟩),.int .i64 m] w λe w'=>∃p,e= .returned (.int .i64 v)/\w'=(w.setCell ⟨D,1,none⟩ (.int .i64 (min (j+1) xs.length:Nat))).growBy p:=by
 subst hv;by_cases ab:j<xs.length
 ·rw[show min (j+1) xs.length=j+1 from by omega]
  have c0:w.cell? ⟨D,0,none⟩=some sv:=hB.cell 0;have c1:w.cell? ⟨D,1,none⟩=some (.int .i64 (j:Nat)):=hB.cell 1;have f1:=hB.frozen 1;obtain⟨a,cap,rfl,hc⟩:=hI;obtain⟨b,off,rfl,hb,fx,cx⟩:=hc j ab;have hx:b4n xs j m=xs[j] % m:=by unfold b4n;rw[List.getD_eq_getElem?_getD,List.getElem?_eq_getElem ab];rfl
  rw[hx];obtain⟨x,Io⟩:=zE (xs[j]);rw[Io]at fx cx ⊢;have A2:¬b=D:=xM;have PO:¬D=b:=xM;have LN:(j:Int)<(xs.length:Int):=xM;have PR:IntKind.i64.wrap ((j:Int)+1)=(j:Int)+1:=by unfold b2e at hlen;exact a0p xM xM
  have PS:wrap64 ((j:Int)+1)=(j:Int)+1:=by unfold b2e at hlen;exact Go.IntWalk.wrap64_in _ ⟨xM,xM⟩
  clear hc Io hx hj;go_enter func43,ntmps43;go_wp2_with fail;refine zR0 λp=> ?_
  go_wp2_with fail;have PT:wrap64 (j:Int)=(j:Int):=by unfold b2e at hlen;exact Go.IntWalk.wrap64_in _ ⟨xM,xM⟩
  clear hlen;refine zR1 λp=> ?_
  go_wp2_with fail;go_ret;exact⟨_,rfl,rfl⟩
 ·obtain rfl:j=xs.length:=xM
  rw[show min (xs.length+1) xs.length=xs.length from by omega];have c0:w.cell? ⟨D,0,none⟩=some sv:=hB.cell 0;have c1:w.cell? ⟨D,1,none⟩=some (.int .i64 (xs.length:Nat)):=hB.cell 1;have f1:=hB.frozen 1;have hid:=World.setCell_id w D 1 _ c1;have hz:b4n xs xs.length m=0:=by unfold b4n;rw[List.getD_eq_getElem?_getD,List.getElem?_eq_none xM];simp
  rw[hz];have LO:¬(xs.length:Int)<(xs.length:Int):=xM;obtain⟨a,cap,rfl,-⟩:=hI;clear hz hlen hj;go_enter func43,ntmps43;go_wp2_with fail;refine zR0 λp=> ?_
  go_wp2_with fail;go_ret;exact⟨_,rfl,by rw[hid]⟩
theorem TD.call {S:BS}(h:TD S n₀ D sv xs W)(m:Int)(dy:1<=m)(b8:m<=4611686018427387904):
 Calls prog 43 #[.pointer (some ⟨D,0,none⟩),.int .i64 m] W λe W'=>∃v,e= .returned (.int .i64 v)/\0<=v/\v<m/\TD S n₀ D sv xs W'/\W.grownBy W' (some D)/\Ev (a7d D) S W S W':=by
 obtain⟨j,hj,hb⟩:=h.box;refine(b9v n₀ D j xs sv m _ W rfl dy b8 h.le h.ints hj h.len hb).mono ?_;rintro e W'⟨p,rfl,rfl⟩;have hg:=b0j W D 1 (.int .i64 (min (j+1) xs.length:Nat)) p;have hn:=c3c xs j dy;have hE:Ev (a7d D) S W S _:=Ev.of_grown h.tw hg (λr e=>by cases e;exact⟨h.not,rfl⟩);refine⟨_,rfl,hn.1,hn.2,⟨hE.ok,⟨min (j+1) xs.length,xM,?_⟩,h.ints.below (Below.of_grown hg (by have:=h.le;have:=hb.lt;omega) (λr e=>by cases e;exact h.le)),h.le,h.len,h.low,h.not⟩,hg,hE⟩;have:=(hb.set 1 (.int .i64 (min (j+1) xs.length:Nat))).grow p;simpa using this
end
end Go.Proofs.YteijfnkidefekaaGreat
