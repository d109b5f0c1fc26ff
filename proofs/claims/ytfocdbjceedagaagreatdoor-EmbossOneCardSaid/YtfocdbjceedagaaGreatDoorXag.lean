/-
  Parts.
-/
import Derived.Test.YtfocdbjceedagaaGreatDoorXae
import Derived.OrdersIn
import Derived.Sort.LotA
set_option linter.unusedVariables false
set_option linter.unusedSimpArgs false
set_option maxHeartbeats 8000000
set_option maxRecDepth 100000
namespace Go.Proofs.YtfocdbjceedagaaGreatDoor
open Tryz
section
open Go.RowKit Go.Shelf Go.Maps
attribute [local go_sem] Oper.semAt_some
def c6t (s:Sh)(id:Int)(en:List (a0r×Int))(d:a0r):List (a0r×Int) :=
 if onS s d.1 d.2&&(!a9p en d||decide (id<(a6k en d).getD 0)) then b3p en d id else en
def c3y (s:Sh)(p:a0r):a0r:=(c6r s p.1,c6s s p.2)
def c7o (s:Sh)(p q:a0r):List a8f:=c3v (a9q (c3y s p) (c3y s q)) (a5j (c3y s p) (c3y s q)+1).toNat
def a3z (s:Sh)(id:Int)(en:List (a0r×Int))(l:List a8f):List (a0r×Int):=l.foldl (fun en d=>c6t s id en d.1) en
structure WI (s:Sh)(id:Int)(w:World)(Bs mb Bm Bw n0:Nat)(way:Array Value)(en0:List (a0r×Int))(pre:List a8f)(W:World):Prop where
 map:∃n,n≤n0+pre.length∧MapIs W mb n (a3z s id en0 pre)
 sheet:Blk W Bs #[.int .i64 s.ax,.int .i64 s.ay,.int .i64 s.st,.int .i64 s.w,.int .i64 s.h,.int .i64 s.g] 28
 box:Blk W Bm #[.map (some mb)] 117
 way:Blk W Bw way 149
 below:Below w.heap.size w W
theorem WI.own {s:Sh}{id:Int}{w:World}{Bs mb Bm Bw n0 B:Nat}{way:Array Value}{en0:List (a0r×Int)}(hs:Bs<B)(hm:mb<B)(hb:Bm<B)(hw:Bw<B)(hB:w.heap.size≤B):OwnFrom B (WI s id w Bs mb Bm Bw n0 way en0):=fun pre X Y row h hg hr=>by
 have hne:∀b,b<B→row≠some b:=fun b hb e=>by have:=(hr b e).1;omega
 obtain⟨⟨n,hn,hM⟩,h1,h2,h3,h4⟩:=h;exact⟨⟨n,hn,hM.kept hg (hne _ hm)⟩,h1.kept hg (hne _ hs),h2.kept hg (hne _ hb),h3.kept hg (hne _ hw),h4.grown hg h4.size (fun k e=>Nat.le_trans hB (hr k e).1)⟩
theorem WI.grown {s:Sh}{id:Int}{w W W':World}{Bs mb Bm Bw n0:Nat}{way:Array Value}{en0:List (a0r×Int)}{pre:List a8f}(h:WI s id w Bs mb Bm Bw n0 way en0 pre W)(hg:W.grownBy W' none):WI s id w Bs mb Bm Bw n0 way en0 pre W':=by
 obtain⟨⟨n,hn,hM⟩,h1,h2,h3,h4⟩:=h;exact⟨⟨n,hn,hM.kept hg (by simp)⟩,h1.kept hg (by simp),h2.kept hg (by simp),h3.kept hg (by simp),h4.grown hg h4.size (fun k e=>by cases e)⟩
theorem c0e {s:Sh}{x y i j:Int}(hs:OkS s)(x0 : -16384≤x)(x1:x≤16384)(y0 : -16384≤y)(y1:y≤16384)(hi:c6r s x=i)(hj:c6s s y=j):Near (i,j):=by
 have h1:=c3j (a:=x-s.ax) (b:=s.st) (m:=32768) (by have:=hs.st0;omega) (by have:=hs.x1;omega) (by have:=hs.x0;omega);have h2:=c3j (a:=y-s.ay) (b:=s.st) (m:=32768) (by have:=hs.st0;omega) (by have:=hs.y1;omega) (by have:=hs.y0;omega);unfold c6r at hi;unfold c6s at hj;exact⟨by show _≤i;omega,by show i≤_;omega,by show _≤j;omega,by show j≤_;omega⟩
theorem a7l {F:Fence}{n:Nat}{P:Program}{α:Type}{g:Operand}{ps:Array Tmp}{assign body:Code}{Q:Exit→Act→World→Prop}{a:Act}{w:World}(slot sbox:Nat)(encV:α→Value)(encC:α→Array Value)(ty:TypeId)
 (hro:F.round=none) (h1:1≤n) {gf:Nat} {lb:Array Value} (hg:a.eval g= .func (.func gf) #[] lb) (hFg:F.fn gf) (eg:∀args w,(callFunc gf args).run P w= .ok (.enter gf args) w)
 {encs:α→Array Value} {Kp:World→World→Prop} {S Sp:List α→Prop} {N:Nat} {w0:World} (hseq:SeqStopsK F (n-1) P gf lb encs Kp S Sp N w0)
 (hKt:∀ {A B C:World},Kp A B→Kp B C→Kp A C) (hKb:∀(W:World) (l:Nat) (o o':Obj),w.heap.size≤l→W.heap[l]? =some o→o.isCells=false→o.isWalk=false→Kp W (W.putObj l o')) (hb0:Below w0.heap.size w0 w) (hps:∀x,(encs x).size=ps.size)
 (I:List α→World→Prop) (hI:OwnFrom w.heap.size I) (h0:I [] w)
 (hassign:∀(l:Nat) (pre:List α) (x:α) (W:World) (K:Act→World→Prop),I pre W→(∀a' W',KeepsFrom w.heap.size W W'→Kp W W'→I pre W'→(∃Bx,w.heap.size≤Bx∧Blk W' Bx (encC x) ty∧a'={ tmps:=(a.tmps.setIfInBounds slot (encV x)).setIfInBounds sbox (.pointer (some ⟨Bx,0,none⟩)),defers:=[] })→K a' W') →
  assign.wpIn (F.inRound l) (n-1-1) P (Exit.then K (fun _ _ _=>False)) { tmps:=(ps.zip (encs x)).foldl (fun t (p,v)=>t.setIfInBounds p v) a.tmps,defers:=[] } W)
 (hbody:∀(l:Nat) (pre:List α) (x:α) (Bx:Nat) (W:World),I pre W→w.heap.size≤Bx→Blk W Bx (encC x) ty→pre.length<N→body.wpIn (F.inRound l) (n-1-1) P (ownPostG w.heap.size Kp I (fun _ _ _=>False) (pre++[x]) W) { tmps:=(a.tmps.setIfInBounds slot (encV x)).setIfInBounds sbox (.pointer (some ⟨Bx,0,none⟩)),defers:=[] } W)
 (hdone:∀(D:Nat) (xs:List α) (W:World),w.heap.size≤D→S xs→I xs W→W.heap[D]? =some (.deferred (some []))→Q .normal { a with defers:={ target:= .collected D,args:= #[] }::a.defers } W) :
 (Code.rangeFunc g ps assign body).wpIn F n P Q a w :=
 wpIn_rangeFunc_ownH hro h1 hg hFg eg hseq hKt hKb hb0 hps I (fun _ _ _=>False) hI (fun _=>ownFrom_pure _ _) h0
  (fun x a' W=>∃Bx,w.heap.size≤Bx∧Blk W Bx (encC x) ty∧a'={ tmps:=(a.tmps.setIfInBounds slot (encV x)).setIfInBounds sbox (.pointer (some ⟨Bx,0,none⟩)),defers:=[] })
  (fun x a' _ X Y row hs hg hr=>by obtain⟨Bx,k1,k2,k3⟩:=hs;exact⟨Bx,k1,c3r Bx ty (fun (_:Unit)=>encC x) () X Y row k2 hg (fun r e=>(hr r e).2),k3⟩)
  hassign (fun l pre x a' W _ _ hi hax hl=>by obtain⟨Bx,k1,k2,rfl⟩:=hax;exact hbody l pre x Bx W hi k1 k2 hl) hdone (fun _ _ _ _ _ _ hF _=>hF.elim)
theorem a4y {Ba Bb:Nat}{W W':World}{row:Option Nat}(hg:W.grownBy W' row)(ha:Ba<W.heap.size)(hb:Bb<W.heap.size)(hra:row≠some Ba)(hrb:row≠some Bb):b6b Ba Bb W W' :=
 ⟨hg.block Ba ha (fun e=>hra e.symm),hg.block Bb hb (fun e=>hrb e.symm)⟩
theorem b6c (s:Sh)(id:Int)(en:List (a0r×Int))(pre:List a8f)(x:a8f):a3z s id en (pre++[x])=c6t s id (a3z s id en pre) x.1:=by simp[a3z]
theorem WI.sized {s:Sh}{id:Int}{w:World}{Bs mb Bm Bw n0 B Z:Nat}{way:Array Value}{en0:List (a0r×Int)}(hs:Bs<B)(hm:mb<B)(hb:Bm<B)(hw:Bw<B)(hB:w.heap.size≤B):OwnFrom B (fun pre W=>WI s id w Bs mb Bm Bw n0 way en0 pre W∧Z≤W.heap.size):=fun pre X Y row h hg hr =>
 ⟨WI.own hs hm hb hw hB pre X Y row h.1 hg hr,Nat.le_trans h.2 hg.size⟩
theorem c0f {a b:a0r}(ha:Near a)(hb:Near b):(a5j a b+1).toNat≤80001:=by
 have h:=c3u (a:=b.1-a.1) (b := -(b.1-a.1)) (c:=b.2-a.2) (d := -(b.2-a.2)) (m:=80000) (by have:=ha.x0;have:=hb.x1;omega) (by have:=ha.x1;have:=hb.x0;omega) (by have:=ha.y0;have:=hb.y1;omega) (by have:=ha.y1;have:=hb.y0;omega);have h2:a5j a b≤80000:=h;omega
theorem b8e (l:List (a0r×Int))(p:a0r)(x:Int):(b3p l p x).length≤l.length+1:=by unfold b3p;split <;> simp
end
section
open Go
structure Lf where
 p:Int
 k:Int
 i:Int
deriving DecidableEq
structure Ke where
 n:Int
 p:Int
 c:ByteArray
deriving DecidableEq
structure Pn where
 dots:List Dt
 keys:List Ke
 left:List Lf
def b3s (g:Int)(a b:Dt):Bool:=(decide (a.k≠b.k)||decide (a.i≠b.i))&&(decide (max (a.x-b.x) (b.x-a.x)<g)&&decide (max (a.y-b.y) (b.y-a.y)<g))
def a4g (g:Int)(l o:List Dt):Option Dt:=l.find? fun a=>o.any (b3s g a)
section
variable (g:Int)(pf:Pc→Bool×List Dt)(kf:Pc→List Ke)
def b5n (dots:List Dt)(p:Pc):Option Lf :=
 if (pf p).1 then (a4g g dots (pf p).2).map fun d=>⟨p.id,d.k,d.i⟩ else some ⟨p.id,0,0⟩
def a3x (pl:Pn)(p:Pc):Pn :=
 match b5n g pf pl.dots p with
 |some x=>{ pl with left:=pl.left++[x] }
 |none=>{ pl with dots:=pl.dots++(pf p).2,keys:=pl.keys++kf p }
def a1t (wd:List Dt)(ps:List Pc):Pn:=ps.foldl (a3x g pf kf) ⟨wd,[],[]⟩
def why (pl:Pn)(id:Int):Option Nat:=pl.left.findIdx? fun l=>decide (l.p=id)
structure CD where
 want:List Dt
 left:Nat
 last:List Int
def a2q (pl:Pn)(st:CD)(p:Pc):Option CD :=
 if p.id∈st.last then none
 else match why pl p.id with
  |some k=>if k=st.left then some ⟨st.want,st.left+1,p.id::st.last⟩ else none
  |none=>if (pf p).1 then some ⟨st.want++(pf p).2,st.left,p.id::st.last⟩ else none
def cdF (pl:Pn)(wd:List Dt)(ps:List Pc):Bool :=
 match ps.foldlM (a2q pf pl) ⟨wd,0,[]⟩ with
 |none=>false
 |some st=>decide (st.left=pl.left.length)&&decide (st.want=pl.dots)
def c3z (a b:Dt):Bool:=(decide (a.k≠3)&&decide (b.k≠3))|| !b3s g a b
def c1j (l:List Dt):Bool:=(List.range l.length).all fun k=>(l.take k).all fun b=>match l[k]? with|some a=>c3z g a b|none=>true
def a4l (pl:Pn)(ps:List Pc):List Ke:=ps.flatMap fun p=>if (why pl p.id).isNone then kf p else []
def b7w (pl:Pn)(bef:List Int)(p:Pc)(l:Lf):Bool :=
 if l.k=0∧l.i=0 then !(pf p).1
 else (pf p).1&&(decide (l.k=2)||(decide (l.k=3)&&decide (l.i≠p.id)&&decide (l.i∈p.id::bef)))&&(a4g g (pl.dots.filter fun d=>decide (d.k=l.k)&&decide (d.i=l.i)) (pf p).2).isSome
def a2e (pl:Pn)(bef:List Int)(p:Pc):Option (List Int) :=
 match (why pl p.id).bind fun k=>pl.left[k]? with
 |none=>some (p.id::bef)
 |some l=>if p.id∈bef then some (p.id::bef) else if b7w g pf pl bef p l then some (p.id::bef) else none
def a2v (pl:Pn)(ps:List Pc):Bool:=(ps.foldlM (a2e g pf pl) []).isSome
def a7m (pl:Pn)(wd:List Dt)(ps:List Pc):Int :=
 if cdF pf pl wd ps then if c1j g pl.dots then if a4l kf pl ps=pl.keys then if a2v g pf pl ps then 0 else 42 else 42 else 41 else 42
end
section
variable {g:Int}{pf:Pc→Bool×List Dt}{kf:Pc→List Ke}
theorem a2n (wd:List Dt)(qs:List Pc)(p:Pc):a1t g pf kf wd (qs++[p])=a3x g pf kf (a1t g pf kf wd qs) p:=by
 unfold a1t;rw[List.foldl_append];rfl
theorem a3c {pl:Pn}{p:Pc}{x:Lf}(h:b5n g pf pl.dots p=some x):a3x g pf kf pl p={ pl with left:=pl.left++[x] }:=by
 unfold a3x;rw[h]
theorem a3j {pl:Pn}{p:Pc}(h:b5n g pf pl.dots p=none):a3x g pf kf pl p={ pl with dots:=pl.dots++(pf p).2,keys:=pl.keys++kf p }:=by
 unfold a3x;rw[h]
theorem c4a {dots:List Dt}{p:Pc}{x:Lf}(h:b5n g pf dots p=some x):x.p=p.id:=by
 unfold b5n at h;split at h
 ·obtain⟨d,-,rfl⟩:=Option.map_eq_some_iff.1 h
  rfl
 ·cases h
  rfl
theorem a7n {α:Type}{Q:List α→Prop}(h0:Q [])(hs:∀l x,Q l→Q (l++[x]))(l:List α):Q l:=by
 have h:∀l:List α,Q l.reverse:=by
  intro l;induction l with
  |nil=>exact h0
  |cons x l ih=>rw[List.reverse_cons];exact hs _ x ih
 have:=h l.reverse;rwa [List.reverse_reverse] at this
theorem a9w (wd:List Dt)(qs:List Pc):∀rs:List Pc,∃D K L,a1t g pf kf wd (qs++rs)=⟨(a1t g pf kf wd qs).dots++D,(a1t g pf kf wd qs).keys++K,(a1t g pf kf wd qs).left++L⟩∧(∀x∈L,x.p∈rs.map Pc.id)∧(∀d∈D,∃p∈rs,d∈(pf p).2):=by
 refine a7n ⟨[],[],[],by simp,by simp,by simp⟩ fun rs p ih=> ?_
 ·obtain⟨D,K,L,h,hL,hD⟩:=ih
  rw[←List.append_assoc,a2n,h]
  cases ho:b5n g pf ((a1t g pf kf wd qs).dots++D) p with
  |some x =>
   rw[a3c ho];refine⟨D,K,L++[x],by simp,fun y hy=> ?_,fun d hd=> ?_⟩
   ·rcases List.mem_append.1 hy with hy|hy
    ·have:=hL y hy
     simp only[List.map_append,List.mem_append];exact .inl this
    ·rw[List.mem_singleton] at hy
     subst hy;rw[c4a ho];simp
   ·obtain⟨q,hq,h2⟩:=hD d hd
    exact⟨q,List.mem_append_left _ hq,h2⟩
  |none =>
   rw[a3j ho];refine⟨D++(pf p).2,K++kf p,L,by simp,fun y hy=> ?_,fun d hd=> ?_⟩
   ·have:=hL y hy
    simp only[List.map_append,List.mem_append];exact .inl this
   ·rcases List.mem_append.1 hd with hd|hd
    ·obtain⟨q,hq,h2⟩:=hD d hd
     exact⟨q,List.mem_append_left _ hq,h2⟩
    ·exact⟨p,by simp,hd⟩
theorem b6d (wd:List Dt)(qs:List Pc):∀x∈(a1t g pf kf wd qs).left,x.p∈qs.map Pc.id:=by
 obtain⟨D,K,L,h,hL,-⟩:=a9w (g:=g) (pf:=pf) (kf:=kf) wd [] qs;rw[List.nil_append] at h;rw[h];simpa [a1t] using hL
theorem b0o (wd:List Dt)(qs:List Pc):∀d∈(a1t g pf kf wd qs).dots,d∈wd∨∃p∈qs,d∈(pf p).2:=by
 obtain⟨D,K,L,h,-,hD⟩:=a9w (g:=g) (pf:=pf) (kf:=kf) wd [] qs;rw[List.nil_append] at h;rw[h];intro d hd;rcases List.mem_append.1 hd with h1|h1
 ·exact .inl (by simpa [a1t] using h1)
 ·exact .inr (hD d h1)
theorem b8f {α:Type}(f:α→Bool)(a b:List α)(x:α)(ha:∀y∈a,f y=false)(hx:f x=true):(a++x::b).findIdx? f=some a.length:=by
 induction a with
 |nil=>simp[List.findIdx?_cons,hx]
 |cons y a ih =>
  rw[List.cons_append,List.findIdx?_cons,ha y (by simp),ih (fun z hz=>ha z (List.mem_cons_of_mem _ hz))];simp
theorem d0w (wd:List Dt){qs rs:List Pc}{p:Pc}{x:Lf}(hn:((qs++p::rs).map Pc.id).Nodup)(ho:b5n g pf (a1t g pf kf wd qs).dots p=some x) :
 why (a1t g pf kf wd (qs++p::rs)) p.id=some (a1t g pf kf wd qs).left.length∧(a1t g pf kf wd (qs++p::rs)).left[(a1t g pf kf wd qs).left.length]? =some x:=by
 obtain⟨D,K,L,h,hL,-⟩:=a9w (g:=g) (pf:=pf) (kf:=kf) wd (qs++[p]) rs;rw[List.append_assoc,List.singleton_append] at h;rw[h,a2n,a3c ho];simp only[List.append_assoc,List.singleton_append];refine⟨?_,by simp⟩;unfold why;refine b8f _ _ _ _ (fun y hy=> ?_) (by simp[c4a ho]);have h1:=b6d wd qs y hy;refine decide_eq_false fun e=> ?_
 rw[e] at h1;rw[List.map_append,List.map_cons] at hn;exact (List.nodup_append.1 hn).2.2 _ h1 _ (by simp) rfl
theorem d2j (wd:List Dt){qs rs:List Pc}{p:Pc}(hn:((qs++p::rs).map Pc.id).Nodup)(ho:b5n g pf (a1t g pf kf wd qs).dots p=none) :
 why (a1t g pf kf wd (qs++p::rs)) p.id=none:=by
 obtain⟨D,K,L,h,hL,-⟩:=a9w (g:=g) (pf:=pf) (kf:=kf) wd (qs++[p]) rs;rw[List.append_assoc,List.singleton_append] at h;rw[h,a2n,a3j ho];unfold why;rw[List.findIdx?_eq_none_iff];intro y hy;refine decide_eq_false fun e=> ?_
 rw[List.map_append,List.map_cons] at hn;have h2:=List.nodup_append.1 hn;rcases List.mem_append.1 hy with hy|hy
 ·have h1:=b6d wd qs y hy
  rw[e] at h1;exact h2.2.2 _ h1 _ (by simp) rfl
 ·have h1:=hL y hy
  rw[e] at h1;exact (List.nodup_cons.1 h2.2.1).1 h1
theorem b2q {α:Type}{Q:List α→Prop}(ps:List α)(h0:Q [])(hs:∀qs p rs,ps=qs++p::rs→Q qs→Q (qs++[p])):Q ps:=by
 have h:∀n,n≤ps.length→Q (ps.take n):=by
  intro n;induction n with
  |zero=>exact fun _=>by simpa using h0
  |succ n ih =>
   intro hn;have hl:n<ps.length:=hn;rw[List.take_add_one,List.getElem?_eq_getElem hl];refine hs (ps.take n) ps[n] (ps.drop (n+1)) ?_ (ih (by omega));rw[←List.drop_eq_getElem_cons hl,List.take_append_drop]
 have:=h ps.length (yR _);rwa [List.take_length] at this
theorem c1k (g:Int)(a b:Dt):b3s g a b=b3s g b a:=by
 unfold b3s;rw[show decide (a.k≠b.k)=decide (b.k≠a.k) from decide_eq_decide.2 ne_comm,show decide (a.i≠b.i)=decide (b.i≠a.i) from decide_eq_decide.2 ne_comm,Int.max_comm (a.x-b.x),Int.max_comm (a.y-b.y)]
theorem c4b {l:List Dt}:c1j g l=true↔l.Pairwise fun b a=>c3z g a b=true:=by
 unfold c1j;rw[List.all_eq_true];rw[List.pairwise_iff_getElem];constructor
 ·intro h i j hi hj hij
  have h1:=h j (by simpa using hj);rw[List.all_eq_true] at h1;have h2:=h1 l[i] (List.mem_take_iff_getElem.2 ⟨i,by omega,rfl⟩);rw[List.getElem?_eq_getElem hj] at h2;exact h2
 ·intro h k hk
  have hk':k<l.length:=by simpa using hk
  rw[List.all_eq_true];intro b hb;obtain⟨i,hi,rfl⟩:=List.mem_take_iff_getElem.1 hb;rw[List.getElem?_eq_getElem hk'];exact h i k (by omega) hk' (by omega)
theorem b8g {l o:List Dt}(h:a4g g l o=none):∀a∈l,∀b∈o,b3s g a b=false:=by
 unfold a4g at h;rw[List.find?_eq_none] at h;intro a ha b hb;have h1:=h a ha;simp only[List.any_eq_true,not_exists,not_and,Bool.not_eq_true] at h1;exact h1 b hb
theorem c4c {dots:List Dt}{p:Pc}(h:b5n g pf dots p=none):(pf p).1=true∧a4g g dots (pf p).2=none:=by
 unfold b5n at h;split at h
 ·rename_i hp
  exact⟨hp,by simpa using h⟩
 ·cases h
theorem c4d (wd:List Dt)(ps:List Pc)(hn:(ps.map Pc.id).Nodup):a4l kf (a1t g pf kf wd ps) ps=(a1t g pf kf wd ps).keys:=by
 refine b2q (Q:=fun qs=>a4l kf (a1t g pf kf wd ps) qs=(a1t g pf kf wd qs).keys) ps rfl ?_;intro qs p rs e ih;have hn':=hn;rw[e] at hn';rw[a2n];unfold a4l at ih ⊢;rw[List.flatMap_append,ih]
 cases ho:b5n g pf (a1t g pf kf wd qs).dots p with
 |some x =>
  obtain⟨h1,-⟩:=d0w (kf:=kf) wd hn' ho;rw[←e] at h1;rw[a3c ho];simp[h1]
 |none =>
  have h1:=d2j (kf:=kf) wd hn' ho;rw[←e] at h1;rw[a3j ho];simp[h1]
end
end
section
open Go.RowKit Go.Shelf Go.Lib Go.Sort
attribute [local go_sem] Oper.semAt_some
attribute [local go_sem ↓] Go.wp_at_zero Go.wp_at_succ
theorem b8h (blk off cap N n:Nat)(d:Array Pc)(w:World)(hW:SoW w blk off N n d w)(hn:n≤1000) :
 Calls prog 170 #[.slice (some ⟨blk,off,none⟩) n cap,.int .i64 0,.int .i64 (n:Nat),.func (.func 103) #[] #[]] w fun e w'=>e= .returned (.tuple #[])∧SoW w blk off N n (insertionSort (ltOf a1z) d 0 n) w':=by
 have mixed:prog.follows .mixedOrders=true:=by kernel_rfl
 have HW:Hid (SoW w blk off N n d w):=hW;clear hW;go_enter func170,ntmps170;go_wp2_with fail;go_loopw [8] (fun vi wr=>∃(i:Nat) (dk:Array Pc),vi= .int .i64 (i:Nat)∧1≤i∧i≤n+1∧Hid (SoW w blk off N n dk wr)∧Hid (insOuter (ltOf a1z) 0 n i dk=insOuter (ltOf a1z) 0 n 1 d)) (fun vi _=>n+1-(intOf vi).toNat)
 case atStart=>exact⟨1,d,rfl,by omega,by omega,HW,rfl⟩
 case round =>
  obtain⟨i,dk,rfl,hi1,hin,HR,HO⟩:=hrel;by_cases hlt:i<n
  ·have hltI:(i:Int)<(n:Int):=by omega
   go_wp2_with fail;go_loopw [9] (fun vj wr2=>∃(j:Nat) (dj:Array Pc),vj= .int .i64 (j:Nat)∧j≤i∧Hid (SoW w blk off N n dj wr2)∧Hid (insInner (ltOf a1z) 0 j dj=insInner (ltOf a1z) 0 i dk)) (fun vj _=>(intOf vj).toNat)
   case atStart=>exact⟨i,dk,rfl,by omega,HR,rfl⟩
   case round =>
    obtain⟨j,dj,rfl,hji,HJ,HI⟩:=hrel;have out:Hid ((j=0∨ltOf a1z dj[j]! dj[j-1]! =false)→insOuter (ltOf a1z) 0 n (i+1) dj=insOuter (ltOf a1z) 0 n 1 d):=fun hs=>by
     rw[←HO.out,insOuter_go _ _ _ _ _ hlt,←HI.out,insInner_stop _ _ _ _ (hs.imp (fun e=>by omega) id)]
    by_cases hj0:0<j
    ·have hj0I:(0:Int)<(j:Int):=by omega
     obtain⟨jp,rfl⟩:∃jp,j=jp+1:=⟨j-1,by omega⟩;have hjn:jp+1<dj.size:=by rw[HJ.out.sz];omega
     obtain⟨xj,hxj⟩:∃x,dj[jp+1]! =x:=⟨_,rfl⟩;obtain⟨xp,hxp⟩:∃x,dj[jp]! =x:=⟨_,rfl⟩;obtain⟨a0,a1,a2,a3,a4,a5,a6⟩:=hxj▸HJ.out.row.pc hjn;obtain⟨b0,b1,b2,b3,b4,b5,b6⟩:=hxp▸HJ.out.row.pc (j:=jp) (by omega);have HX:Hid (dj[jp+1]! =xj∧dj[jp]! =xp):=⟨hxj,hxp⟩;obtain⟨cv,hcv⟩:∃c,a1z xj xp=c:=⟨_,rfl⟩;have hcmp:∀W,Calls prog 103 #[plV xj,plV xp] W fun e w'=>e= .returned (.int .i64 cv)∧Below W.heap.size W w':=fun W=>by rw[←hcv];exact a5m xj xp W
     have HC:Hid (a1z xj xp=cv):=hcv;clear hxj hxp hcv;obtain⟨i1,x1,y1,cl1,n1,wt1,d1⟩:=xj;obtain⟨i2,x2,y2,cl2,n2,wt2,d2⟩:=xp;have hwp:IntKind.i64.wrap (jp:Int)=(jp:Int):=by rw[IntKind.wrap_i64];omega
     have hjnI:(jp:Int)+1<(n:Int):=by omega
     have hjnI2:(jp:Int)<(n:Int):=by omega
     have hp0:(0:Int)≤(jp:Int)+1:=by omega
     have he0:((jp:Int)+1).toNat=jp+1:=by omega
     by_cases hlv:cv<0
     ·go_wp2_with fail
      first|with_reducible refine a0t (by kernel_rfl) (by kernel_rfl) ?_|with_reducible refine a0v (by kernel_rfl) (by kernel_rfl) ?_
      repeat (first|go_big_quiet_step ((go_at_call 103;exact Calls.grow_of (hcmp _)))|quiet_step ((go_at_call 103;exact Calls.grow_of (hcmp _))))
      refine wpQuiet_nil ?_;intro _ hw_;obtain⟨p,hw_⟩:=hw_;subst hw_;go_upto_region 6 with fail;obtain⟨W2,hW2⟩:∃W,wr.growBy p=W:=⟨_,rfl⟩;rw[hW2];have HJ2:SoW w blk off N n dj W2:=by rw[←hW2];exact HJ.out.below (below_growBy _ _)
      clear a0 a1 a2 a3 a4 a5 a6 b0 b1 b2 b3 b4 b5 b6 hW2 hcmp;obtain⟨a0,a1,a2,a3,a4,a5,a6⟩:=HX.out.1▸HJ2.row.pc hjn;obtain⟨b0,b1,b2,b3,b4,b5,b6⟩:=HX.out.2▸HJ2.row.pc (j:=jp) (by omega);obtain⟨f0,f1,f2,f3,f4,f5,f6⟩:=HJ2.row.pf hjn;obtain⟨g0,g1,g2,g3,g4,g5,g6⟩:=HJ2.row.pf (j:=jp) (by omega);have HJ3:=Lib.hid (HJ2.swap (j:=jp) (by omega));have hjj:jp+1<n:=by omega
      replace HJ2:=Lib.hid HJ2;simp only at a0 a1 a2 a3 a4 a5 a6 b0 b1 b2 b3 b4 b5 b6;go_big_region_o
      all_goals go_wp2_with fail
      go_roundw
      case rel =>
       refine⟨jp,swp dj (jp+1) jp,by go_num,by omega,?_,?_⟩
       ·have h3:=HJ3.out
        unfold c7a at h3;rw[HX.out.1,HX.out.2,a7i] at h3;exact Lib.hid h3.drew
       ·show _=_
        have h4:=insInner_go (ltOf a1z) 0 (jp+1) dj (by omega) (by rw[HX.out.1,show jp+1-1=jp from rfl,HX.out.2,c7c,HC.out];exact hlv);rw[←HI.out,h4];rfl
      case measure=>first|(simp[intOf];done)|(simp[intOf];omega)
     ·go_wp2_with fail
      first|with_reducible refine a0t (by kernel_rfl) (by kernel_rfl) ?_|with_reducible refine a0v (by kernel_rfl) (by kernel_rfl) ?_
      repeat (first|go_big_quiet_step ((go_at_call 103;exact Calls.grow_of (hcmp _)))|quiet_step ((go_at_call 103;exact Calls.grow_of (hcmp _))))
      refine wpQuiet_nil ?_;intro _ hw_;obtain⟨p,hw_⟩:=hw_;subst hw_;go_wp2_with fail;go_roundw
      case rel=>exact⟨i+1,dj,by go_num,by omega,by omega,HJ.out.below (below_growBy _ _),out.out (.inr (by show decide _=false;rw[HX.out.1,show jp+1-1=jp from rfl,HX.out.2,HC.out];exact decide_eq_false (by omega)))⟩
      case measure=>first|(simp[intOf];done)|(simp[intOf];omega)
    ·obtain rfl:j=0:=by omega
     have hj0I:¬(0:Int)<((0:Nat):Int):=by omega
     have hSo:=out.out (.inl rfl);go_wp2_with fail;go_big_region_o
     all_goals go_wp2_with fail
     go_roundw
     case rel=>exact⟨i+1,dj,by go_num,by omega,by omega,Lib.hid HJ.out.drew,hSo⟩
     case measure=>first|(simp[intOf];done)|(simp[intOf];omega)
  ·have hgeI:¬(i:Int)<(n:Int):=by omega
   go_wp2_with fail;go_end0;have h5:=HO.out;rw[insOuter_stop _ _ _ _ _ hlt] at h5;refine⟨rfl,?_⟩;unfold insertionSort;rw[←h5];exact HR.out
def a1d (l:List Pc):List Pc:=(insertionSort (ltOf a1z) l.toArray 0 l.length).toList
theorem c4e:a1d []=[]:=by
 unfold a1d insertionSort;rw[insOuter_stop _ _ _ _ _ (by simp)]
theorem c0g (d:Array Pc)(t:Nat)(ht:t<d.size*7):(d.toList.flatMap plE.enc)[t]? =some (flatK plE.enc 7 d)[t]! :=by
 have hq:t / 7<d.toList.length:=by simp;omega
 have hr:t % 7<7:=Nat.mod_lt _ (by decide);have e1:t / 7*7+t % 7=t:=by omega
 have h2:=b0d a2l d.toList (t / 7) (t % 7) hq hr;rw[show plE.s=7 from rfl,e1] at h2;rw[h2,get_flatK _ _ _ _ ht];have hqa:t / 7<d.size:=by omega
 rw[getElem!_pos d (t / 7) hqa];have hl:t % 7<(plE.enc d[t / 7]).length:=hr;rw[getElem!_pos (plE.enc d[t / 7]) (t % 7) hl];simp only[Array.getElem_toList];exact List.getElem?_eq_getElem hl
theorem b2r {w:World}{base g cap:Nat}{l:List Pc}(h:w.ownsRow base 66 7 (.slice (some ⟨g,0,none⟩) l.length cap) l.length (l.flatMap plE.enc)):SoW w g 0 (cap*7) l.length l.toArray w∧base≤g:=by
 rcases h.2 with ⟨e,-⟩|⟨g',cap',cur,e,hb,hg,h1,h2,h3,h4⟩
 ·cases e
 ·simp only[Value.slice.injEq,Option.some.injEq,Addr.mk.injEq,and_true,true_and] at e
  obtain⟨rfl,rfl⟩:=e;refine⟨⟨fun t ht=>⟨?_,(show Blk w g cur 66 from hg).frozen _⟩,⟨cur,hg,h3⟩,⟨rfl,rfl,rfl,yR _,fun _ _ _=>rfl⟩,by simp⟩,hb⟩;have ht':t<l.length*7:=by simpa using ht
  have h5:=c0g l.toArray t (by simpa using ht');simp only at h5;have h6:=h.cellAt t ht';rw[h5] at h6;simpa using h6
theorem b2s {w W:World}{base g cap n:Nat}{d:Array Pc}(h:SoW w g 0 (cap*7) n d W)(hb:base≤g)(hc:n≤cap)(hm:cap≤maxLen):W.ownsRow base 66 7 (.slice (some ⟨g,0,none⟩) n cap) n (d.toList.flatMap plE.enc):=by
 obtain⟨hr,⟨cur,hk,hs⟩,-,hz⟩:=h;have hlen:(d.toList.flatMap plE.enc).length=n*7:=by rw[a1c a2l];simp[hz]
 refine⟨hlen,.inr ⟨g,cap,cur,rfl,hb,hk,hc,hm,hs,?_⟩⟩;refine List.ext_getElem? fun t=> ?_
 by_cases ht:t<n*7
 ·rw[List.getElem?_take_of_lt ht,c0g d t (by rw[hz];exact ht)]
  have h1:=(hr t (by rw[size_flatK,hz];exact ht)).1;rw[Nat.zero_add,hk.cell t] at h1;simpa using h1
 ·rw[List.getElem?_eq_none (by simp;omega),List.getElem?_eq_none (by omega)]
theorem b8i (a:Option Addr)(n c:Nat)(fv:Value)(w:World):Calls prog 170 #[.slice a n c,.int .i64 0,.int .i64 0,fv] w fun e w'=>e= .returned (.tuple #[])∧w=w':=by
 go_enter func170,ntmps170;go_wp2_with fail;refine wp_loop_rounds 1 ?_;rw[rounds_succ];go_wp2_with fail;go_end0;exact⟨rfl,rfl⟩
theorem b2t (v fv:Value)(n:Nat)(hn:n≤19)(w:World)(K:World→Prop)(h:Calls prog 170 #[v,.int .i64 0,.int .i64 (n:Nat),fv] w fun e w'=>e= .returned (.tuple #[])∧K w') :
 Calls prog 150 #[v,.int .i64 (n:Nat),fv] w fun e w'=>e= .returned (.tuple #[])∧K w':=by
 have hnI:¬(20:Int)≤(n:Int):=by omega
 have hnI2:¬(20:Int)<(n:Int):=by omega
 have mixed:prog.follows .mixedOrders=true:=by kernel_rfl
 go_enter func150,ntmps150;go_wp2_with fail;refine wp_loop_rounds 1 ?_;rw[rounds_succ];go_wp2_with (go_at_call 170;refine h.mono ?_;rintro e w1⟨rfl,hK⟩);refine wp_loop_rounds 1 ?_;rw[rounds_succ];go_wp2_with fail;go_end0;exact⟨rfl,hK⟩
theorem d0x {base g cap:Nat}{l:List Pc}{w:World}{fv:Value}(hl:l.length≤19)(hrow:w.ownsRow base 66 7 (.slice (some ⟨g,0,none⟩) l.length cap) l.length (l.flatMap plE.enc))(hc:l.length≤cap)(hm:cap≤maxLen)
 (hins:SoW w g 0 (cap*7) l.length l.toArray w→Calls prog 170 #[.slice (some ⟨g,0,none⟩) l.length cap,.int .i64 0,.int .i64 (l.length:Nat),fv] w fun e w'=>e= .returned (.tuple #[])∧SoW w g 0 (cap*7) l.length (insertionSort (ltOf a1z) l.toArray 0 l.length) w') :
 Calls prog 150 #[.slice (some ⟨g,0,none⟩) l.length cap,.int .i64 (l.length:Nat),fv] w fun e w'=>e= .returned (.tuple #[])∧w'.ownsRow base 66 7 (.slice (some ⟨g,0,none⟩) l.length cap) l.length ((a1d l).flatMap plE.enc)∧w.grownBy w' (some g):=by
 obtain⟨hS,hb⟩:=b2r hrow;refine b2t _ fv l.length hl w _ ((hins hS).mono ?_);rintro e w'⟨rfl,h⟩;exact⟨rfl,b2s h hb hc hm,h.gr⟩
theorem b6e (base:Nat)(v:Value)(l:List Pc)(w:World)(hl:l.length≤19)(hrow:w.ownsRow base 66 7 v l.length (l.flatMap plE.enc)) :
 Calls prog 102 #[v,.func (.func 103) #[] #[]] w fun e w'=>e= .returned (.tuple #[])∧w'.ownsRow base 66 7 v l.length ((a1d l).flatMap plE.enc)∧w.grownBy w' v.ownBlock:=by
 rcases hrow.2 with ⟨rfl,h0⟩|⟨g,cap,cur,rfl,hb,hg,h1,h2,h3,h4⟩
 ·obtain rfl:=List.eq_nil_of_length_eq_zero h0
  have c1:=b2t (.slice none 0 0) (.func (.func 103) #[] #[]) 0 (by omega) w (fun w'=>w=w') (b8i none 0 0 _ w);have hr2:=Lib.hid hrow;clear hrow h0;go_enter func102,ntmps102;go_wp2_with (go_at_call 150;refine c1.mono ?_;rintro e w1⟨rfl,rfl⟩);go_end0;exact⟨rfl,by rw[c4e];exact hr2.out,⟨rfl,rfl,rfl,yR _,fun _ _ _=>rfl⟩⟩
 ·have c1:=d0x hl hrow h1 h2 (fun hS=>b8h g 0 cap (cap*7) l.length l.toArray w hS (by omega))
  clear hrow hg h3 h4;go_enter func102,ntmps102;go_wp2_with (go_at_call 150;refine c1.mono ?_;rintro e w1⟨rfl,hr2,hg2⟩);go_end0;exact⟨rfl,hr2,hg2⟩
end
section
open Go Go.RowKit Go.Shelf Go.Lib Go.Sort
/-! ### the order of places -/
theorem d0c (a b:Pc):ltOf a1z a b=true↔(b.wt<a.wt∨(a.wt=b.wt∧a.id<b.id)):=by
 unfold ltOf a1z compareInt;simp only[decide_eq_true_eq];split <;> (try split at *) <;> (try split at *) <;> (try split at *) <;> omega
theorem d0d (a b:Pc):ltOf a1z a b=false↔¬(b.wt<a.wt∨(a.wt=b.wt∧a.id<b.id)):=by
 rw[←d0c]
 cases ltOf a1z a b <;> simp
theorem c7p:SWO (ltOf a1z):=by
 refine⟨fun x=> ?_,fun x y z h1 h2=> ?_,fun x y z h1 h2=> ?_⟩
 ·rw[d0d];omega
 ·rw[d0c] at *;omega
 ·rw[d0d] at *;omega
theorem b0p {α:Type}(d:Array α)(n:Nat)(h:n=d.size):(d.extract 0 n)=d:=by
 subst h;simp
theorem a1q (l:List Pc):(a1d l).Perm l:=by
 have:=(insertionSort_holds (lt:=ltOf a1z) c7p l.toArray 0 l.length (Nat.zero_le _) (by simp)).1;obtain⟨h1,-,h3⟩:=this;rw[b0p _ _ (by rw[h1];simp),b0p _ _ (by simp)] at h3;exact h3
def c4f (l:List Pc):Prop:=(l.map Pc.id).Nodup
theorem PlsOk.nodup {l:List Pc}(h:∀(k:Nat) p,l[k]? =some p→p.id=61+(k:Int)):c4f l:=by
 unfold c4f;rw[List.nodup_iff_pairwise_ne,List.pairwise_iff_getElem];intro i j hi hj hij;rw[List.length_map] at hi hj;rw[List.getElem_map,List.getElem_map,h i l[i] (List.getElem?_eq_getElem hi),h j l[j] (List.getElem?_eq_getElem hj)];omega
end
end Go.Proofs.YtfocdbjceedagaaGreatDoor
