/-
  Parts.
-/
import Derived.Test.YtfocdbjceedagaaGreatDoorMax
set_option linter.unusedVariables false
set_option linter.unusedSimpArgs false
set_option maxHeartbeats 4000000
set_option maxRecDepth 100000
namespace Go.Proofs.YtfocdbjceedagaaGreatDoor
open Tryz
section
open Go Go.RowKit Go.Shelf Go.Lib
attribute [local go_sem] Oper.semAt_some
attribute [local go_sem ↓] Go.wp_at_zero Go.wp_at_succ
def atD (x y:Int)(d:Dt):Bool:=decide (d.x=x)&&decide (d.y=y)
theorem d0a (d:Dt)(X Y:Nat)(x y:Int)(w:World)(hx:w.cell? ⟨X,0,none⟩=some (.int .i64 x))(hy:w.cell? ⟨Y,0,none⟩=some (.int .i64 y)) :
 Calls prog 46 #[.agg (a2c d).toArray,.pointer (some ⟨X,0,none⟩),.pointer (some ⟨Y,0,none⟩)] w λe w'=>e= .returned (.bool (atD x y d))/\Below w.heap.size w w':=by
 obtain⟨dx,dy,dk,di⟩:=d;unfold atD;have hXl:=World.block_lt_of_cell? _ _ hx;have hYl:=World.block_lt_of_cell? _ _ hy;by_cases h1:dx=x
 ·subst h1
  by_cases h2:dy=y
  ·subst h2
   go_enter func46,ntmps46;exact yef
  ·have hb:(dy==y)=false:=by simpa using h2
   rw[decide_eq_false h2];go_enter func46,ntmps46;exact yef
 ·have hb:(dx==x)=false:=by simpa using h1
  rw[decide_eq_false h1];go_enter func46,ntmps46;exact yef
def d6w (o:Option Dt):Value:=match o with|some d=> .tuple #[.int .i64 d.k,.int .i64 d.i]|none=> .tuple #[.int .i64 0,.int .i64 0]
theorem b6u (s:Sh)(dv kv lv:Value)(l:List Dt)(x y:Int)(w:World)(hl:Lst dtE w.heap.size w dv l)(hf:Frm dv l.length) :
 Calls prog 16 #[shV s,a3s dv kv lv,.int .i64 x,.int .i64 y] w λe w'=>e= .returned (d6w (l.find? (atD x y)))/\Below w.heap.size w w':=by
 obtain⟨la,lc,rfl,-⟩:=hl.form;have hmf:∀(fn:Fn) (first cap:Array Value) (w:World),(Instr.makeFunc fn first cap).run prog w= .ok (.func fn first cap) w:=λ_ _ _ _=>rfl
 go_enter func16,ntmps16;go_upto_region 1 with fail;have k3:=((Blk.new (w.alloc (.cells #[.int .i64 s.ax,.int .i64 s.ay,.int .i64 s.st,.int .i64 s.w,.int .i64 s.h,.int .i64 s.g] 28)) #[.slice la l.length lc,kv,lv] 45).alloc (.cells #[.int .i64 x] 3)).alloc (.cells #[.int .i64 y] 3);have kX:=(Blk.new ((w.alloc (.cells #[.int .i64 s.ax,.int .i64 s.ay,.int .i64 s.st,.int .i64 s.w,.int .i64 s.h,.int .i64 s.g] 28)).alloc (.cells #[.slice la l.length lc,kv,lv] 45)) #[.int .i64 x] 3).alloc (.cells #[.int .i64 y] 3);have kY:=Blk.new (((w.alloc (.cells #[.int .i64 s.ax,.int .i64 s.ay,.int .i64 s.st,.int .i64 s.w,.int .i64 s.h,.int .i64 s.g] 28)).alloc (.cells #[.slice la l.length lc,kv,lv] 45)).alloc (.cells #[.int .i64 x] 3)) #[.int .i64 y] 3;have hb:Below w.heap.size w ((((w.alloc (.cells #[.int .i64 s.ax,.int .i64 s.ay,.int .i64 s.st,.int .i64 s.w,.int .i64 s.h,.int .i64 s.g] 28)).alloc (.cells #[.slice la l.length lc,kv,lv] 45)).alloc (.cells #[.int .i64 x] 3)).alloc (.cells #[.int .i64 y] 3)):=zC;simp only[World.size_alloc]at k3 kX kY;obtain⟨W,hW⟩:=zE ((((w.alloc (.cells #[.int .i64 s.ax,.int .i64 s.ay,.int .i64 s.st,.int .i64 s.w,.int .i64 s.h,.int .i64 s.g] 28)).alloc (.cells #[.slice la l.length lc,kv,lv] 45)).alloc (.cells #[.int .i64 x] 3)).alloc (.cells #[.int .i64 y] 3));rw[hW]at k3 kX kY hb ⊢;clear hW;have h0:=a5l (.slice la l.length lc) l W (hl.up hb) hf (atD x y) 46 #[.pointer (some ⟨w.heap.size+1+1,0,none⟩),.pointer (some ⟨w.heap.size+1+1+1,0,none⟩)] (enters_of func46 zM rfl)
  (λX d hx=>(d0a d (w.heap.size+1+1) (w.heap.size+1+1+1) x y X ((kX.below hx kX.lt).cell 0) ((kY.below hx kY.lt).cell 0)).mono λ_ _ ⟨he,h⟩=>⟨he,hx.trans (h.mono hx.size)⟩)
 have c0:W.cell? ⟨w.heap.size+1,0,none⟩=some (.slice la l.length lc):=k3.cell 0;have hlW:=hl.up hb;clear hl;rcases c4k (atD x y) l with⟨h1,h2⟩|⟨k,hk,h1,h2⟩
 ·rw[h1]at h0
  replace h0:Calls _ _ _ _ λe w'=>e= .returned (.int .i64 (-1))/\Below W.heap.size W w':=h0
  replace h2:=Lib.hid h2;clear h1;go_wp2_with (first
   |(go_at_call 45;(with_reducible refine h0.mono ?_);rintro e w8⟨rfl,hb8⟩))
  exact bodyPost_ret (v:= .tuple #[.int .i64 0,.int .i64 0]) (by simp[results,results16,go_sem]) rfl ⟨by rw[h2.out];rfl,hb.trans (hb8.mono hb.size)⟩
 ·rw[h1]at h0
  replace h0:Calls _ _ _ _ λe w'=>e= .returned (.int .i64 (k:Nat))/\Below W.heap.size W w':=h0
  obtain⟨b,off,cap,hv,hcap,hlb,hc⟩:=hlW.some_ oM;simp only[Value.slice.injEq,true_and]at hv;obtain⟨rfl,rfl⟩:=hv;obtain⟨d,hd⟩:=zE (l[k]);rw[hd]at h2;replace h2:=Lib.hid h2;have hkI:(k:Int)<(l.length:Int):=oM;have hk0:¬(k:Int)<0:=oM;clear h1;go_upto_region 4 with(first
   |(go_at_call 45;(with_reducible refine h0.mono ?_);rintro e w8⟨rfl,hb8⟩
     have e0:w8.cell? ⟨w.heap.size+1,0,none⟩=some (.slice (some ⟨b,off,none⟩) l.length lc):=(k3.below hb8 k3.lt).cell 0;obtain⟨b',off',cap',hv',-,-,hc'⟩:=(hlW.up hb8).some_ oM;simp only[Value.slice.injEq,Option.some.injEq,Addr.mk.injEq,and_true,true_and]at hv';obtain⟨⟨rfl,rfl⟩,rfl⟩:=hv';have hck:=hc' k hk;rw[hd]at hck;have d2:w8.cell? ⟨b,off+k*4+2,none⟩=some (.int .i64 d.k):=hck 2 (show 2<4 by decide);have d3:w8.cell? ⟨b,off+k*4+3,none⟩=some (.int .i64 d.i):=hck 3 (show 3<4 by decide);clear hck hc'))
  clear hc hd hlW c0;go_region;go_wp2_with fail;have hq:=hb.trans (hb8.mono hb.size);refine bodyPost_ret (v:= .tuple #[.int .i64 d.k,.int .i64 d.i]) (by simp[results,results16,go_sem]) rfl ⟨by rw[h2.out];rfl,?_⟩;first|exact hq|exact hq.drew|exact below_drewN hq _
end
section
open Go Go.RowKit Go.Shelf Go.Lib Go.Maps
attribute [local go_sem] Oper.semAt_some
attribute [local go_sem ↓] Go.wp_at_zero Go.wp_at_succ
variable{p:Int}{b n:Nat}{W:World}
abbrev idK :Ky Int:=⟨3,λn=> .int .i64 n,λn=> .int .i64 n,fits⟩
abbrev boV :Ve Bool:=⟨4,.bool,false⟩
theorem d0b (h:fits p):keyOf prog 3 (.int .i64 p)=some (.int .i64 p):=keyOf_int_mk underlying3 (b1o h)
theorem d9g:idK.Law prog:=⟨int_keyed underlying3,λh=>d0b h,λ{v l} h=>by
 rw[keyOf_int underlying3]at h;unfold mapKey at h;rw[underlying3]at h
 cases v <;> simp at h
 obtain⟨⟨h1,h2⟩,h3⟩:=h;subst h1 h3;exact⟨_,d5c h2,rfl,rfl⟩,λh=>by simpa using h⟩
theorem c6q (w:World):(zeroValue 4).run prog w= .ok (.bool false) w:=by kernel_rfl
theorem c3a {en:List (Int×Bool)}(h:MapK prog idK boV W b n en)(hp:fits p):(Instr.lookup 169 (.map (some b)) (.int .i64 p) false).run prog W= .ok (.bool ((idG en p).getD false)) W:=by
 obtain⟨D,ho,-,-,-,hD⟩:=h;obtain⟨v,ps,hrun,hv⟩:=ho.lookup (int_keyed underlying3) underlying169 (c6q W) (plainElem_bool underlying4 false) (d0b hp);have hvb:∃c,v= .bool c/\D.atKey (.int .i64 p) (.lit (.bool false))= .lit (.bool c):=by
  unfold plainElem at hv;rw[underlying4]at hv;generalize D.atKey (.int .i64 p) (.lit (.bool false))=X at hv ⊢
  cases v <;> simp at hv
  exact⟨_,rfl,hv.1.symm⟩
 obtain⟨c,rfl,hc⟩:=hvb;have h2:=(hD p hp).2;simp only at h2;rw[hc]at h2;have h4:c=(idG en p).getD false:=by simpa using h2
 rw[hrun,h4]
theorem MapK.wpIn_store {α β:Type}[DecidableEq α]{F:Fence}{nF:Nat}{P:Program}{K:Ky α}{V:Ve β}{l:List (α×β)}(L:K.Law P){ops:Array Oper}{rest:List Oper}{o:Oper}{a:Act}{Q:Exit->Act->World->Prop}(hg:o.guard=none)(m x v:Operand)(t:TypeId)(hop:o.op=Op.mapUpdate t m x v)(ht:P.underlying t=some (.map K.t V.t))
 (hm:a.eval m= .map (some b)) (h:MapK P K V W b n l) (hn:n<maxLen) {p:α} (hp:K.Ok p) (hx:a.eval x=K.val p) {y:β} {val:Value} (hv:a.eval v=val) (hval:plainElem (H:=Unit) P V.t val=some (.lit (V.lit y),[]))
 (hK:∀w',MapK P K V w' b (n+1) (c7s l p y)->W.grownBy w' (some b)->wpListIn F nF P ops Q rest (a.put o.dst undef) w'):wpListIn F nF P ops Q (o::rest) a W:=by
 obtain⟨D,ho,h1,h2,h4,h3⟩:=h;refine wpListIn_mapUpdate_own W hg m x v t hop K.t V.t L.law ht _ b n D hm ho hn (K.val p) val (K.kl p) hx hv (L.key hp) _ [] hval ?_;intro w' ho' hg';exact hK w' (MapK.store L (ho.tidy L.law) h1 h2 h4 h3 hp ho') hg'
def SetI (en:List (Int×Bool))(s:List Int):Prop:=∀p,(idG en p).getD false=decide (p∈s)
theorem SetI.nil:SetI [] []:=λp=>by simp[idG]
theorem SetI.put {en:List (Int×Bool)}{s:List Int}(h:SetI en s)(p:Int):SetI (c7s en p true) (p::s):=λq=>by
 rw[c7u];by_cases hq:q=p
 ·rw[if_pos hq];simp[hq]
 ·rw[if_neg hq,h q];simp[hq]
end
section
open Go Go.RowKit Go.Shelf Go.Lib Go.Maps
def b3m (Bw Bc Bm:Nat)(W:World)(k:Nat):Prop:=(∃o,W.heap[k]? =some o/\a6q o=false)/\(k=Bw\/k=Bc\/k=Bm\/∃off len cap,W.cell? ⟨Bw,0,none⟩=some (.slice (some ⟨k,off,none⟩) len cap))
theorem c3b {Bw Bc Bm:Nat}{W:World}{k:Nat}(h:b3m Bw Bc Bm W k):k<W.heap.size:=by
 exact yhm
theorem b6v (Bw Bc Bm:Nat)(W:World)(l:Nat)(o:Obj)(h:W.heap[l]? =some o)(ho:a6q o=true):¬b3m Bw Bc Bm W l:=by
 exact yhj
theorem d3q (Bw Bc Bm:Nat)(W:World)(l k:Nat)(o o':Obj)(h:W.heap[l]? =some o)(ho:a6q o=true)(ho':a6q o'=true):b3m Bw Bc Bm (W.putObj l o') k↔b3m Bw Bc Bm W k:=by
 have hlt:l<W.heap.size:=(Array.getElem?_eq_some_iff.1 h).1;have hl':(W.putObj l o').heap[l]? =some o':=World.putObj_heap_same hlt;by_cases hk:k=l
 ·subst hk
  exact⟨λhc=>absurd hc (b6v Bw Bc Bm _ k o' hl' ho'),λhc=>absurd hc (b6v Bw Bc Bm W k o h ho)⟩
 ·have e1:(W.putObj l o').heap[k]? =W.heap[k]? :=World.putObj_heap_other hk
  have e2:(W.putObj l o').cell? ⟨Bw,0,none⟩=W.cell? ⟨Bw,0,none⟩:=by
   by_cases hb:Bw=l
   ·subst hb
    rw[a3j hl' (a1o ho'),a3j h (a1o ho)]
   ·exact a5f (World.putObj_heap_other hb)
  unfold b3m;simp only[e1,e2]
theorem c6r (Bw Bc Bm:Nat)(W:World)(k:Nat)(o:Obj)(h:b3m Bw Bc Bm (W.alloc o) k)(ho:a6q o=true):b3m Bw Bc Bm W k:=by
 have hnew:(W.alloc o).heap[W.heap.size]? =some o:=World.alloc_heap_new W o;have hk:k≠W.heap.size:=λe=>b6v Bw Bc Bm _ k o (by rw[e];exact hnew) ho h
 have hlt:=c3b h;rw[World.size_alloc]at hlt;have e1:(W.alloc o).heap[k]? =W.heap[k]? :=Below.heap_alloc W o k oM;obtain⟨⟨o',h1,h2⟩,h3⟩:=h;refine⟨⟨o',e1.symm.trans h1,h2⟩,h3.imp id (Or.imp id (Or.imp id ?_))⟩;rintro⟨off,len,cap,hc⟩;have hb:Bw<(W.alloc o).heap.size:=World.block_lt_of_cell? _ _ hc;rw[World.size_alloc]at hb;by_cases hbo:Bw=W.heap.size
 ·rw[hbo,a3j hnew (a1o ho)]at hc
  cases hc
 ·exact⟨off,len,cap,by rw[<-a5f (Below.heap_alloc W o Bw oM)];exact hc⟩
structure DIr (n0:Nat)(w:World)(Bw Bc Bm:Nat)(L:List (Nat×Array Value×TypeId))(v:Value)(c:Int)(m:Nat)(en:List (Int×Bool))(want:List Dt)(W:World):Prop where
 b:Blk W Bw #[v] 41
 row:W.ownsRow n0 54 4 v want.length (want.flatMap dtE.enc)
 c:Blk W Bc #[.int .i64 c] 3
 mp:MapK prog idK boV W Bm m en
 o:∀q∈L,Blk W q.1 q.2.1 q.2.2
 ne:∀q∈L,q.1≠Bw/\q.1≠Bc/\q.1≠Bm/\q.2.2≠54
 bw:n0<=Bw
 bc:n0<=Bc
 bm:n0<=Bm
 d1:Bw≠Bc
 d2:Bw≠Bm
 d3:Bc≠Bm
 bel:Below n0 w W
 nw:n0<=w.heap.size
section
variable {n0 Bw Bc Bm m:Nat}{w W W':World}{L:List (Nat×Array Value×TypeId)}{v:Value}{c:Int}{en:List (Int×Bool)}{want:List Dt}
theorem DIr.hz (h:DIr n0 w Bw Bc Bm L v c m en want W):n0<=W.heap.size:=Nat.le_trans h.nw h.bel.size
theorem DIr.cm (h:DIr n0 w Bw Bc Bm L v c m en want W):b3m Bw Bc Bm W Bm:=by
 obtain⟨D,⟨es,clock,he,-⟩,-⟩:=h.mp;exact⟨⟨_,he,rfl⟩,.inr (.inr (.inl rfl))⟩
theorem DIr.cb (h:DIr n0 w Bw Bc Bm L v c m en want W):b3m Bw Bc Bm W Bw:=⟨⟨_,h.b,rfl⟩,.inl rfl⟩
theorem DIr.cc (h:DIr n0 w Bw Bc Bm L v c m en want W):b3m Bw Bc Bm W Bc:=⟨⟨_,h.c,rfl⟩,.inr (.inl rfl)⟩
theorem DIr.cr (h:DIr n0 w Bw Bc Bm L v c m en want W){k:Nat}(hk:v.ownBlock=some k):b3m Bw Bc Bm W k:=by
 rcases h.row.2 with⟨rfl,-⟩|⟨g,cap,cur,rfl,-,hg,-⟩
 ·cases hk
 ·cases hk
  exact⟨⟨_,hg,rfl⟩,.inr (.inr (.inr ⟨0,_,cap,h.b.cell 0⟩))⟩
theorem DIr.c_row (h:DIr n0 w Bw Bc Bm L v c m en want W)(hp:Blk W' Bw #[v] 41){k:Nat}(hc:b3m Bw Bc Bm W' k):k=Bw\/k=Bc\/k=Bm\/v.ownBlock=some k:=by
 obtain⟨-,rfl|rfl|rfl|⟨off,len,cap,hcell⟩⟩:=hc
 ·exact .inl rfl
 ·exact .inr (.inl rfl)
 ·exact .inr (.inr (.inl rfl))
 ·refine .inr (.inr (.inr ?_))
  rw[hp.cell 0]at hcell;have hv:v= .slice (some ⟨k,off,none⟩) len cap:=by simpa using hcell
  rcases h.row.2 with⟨e,-⟩|⟨g,cap',cur,e,-⟩
  ·rw[e]at hv;cases hv
  ·rw[e]at hv
   simp only[Value.slice.injEq,Option.some.injEq,Addr.mk.injEq]at hv;rw[e,<-hv.1.1];rfl
theorem DIr.keep_row (h:DIr n0 w Bw Bc Bm L v c m en want W){row:Option Nat}(hg:W.grownBy W' row)(hr:∀r,row=some r->n0<=r/\r≠Bw/\r≠Bc/\r≠Bm/\v.ownBlock≠some r)(ho:∀q∈L,some q.1≠row):DIr n0 w Bw Bc Bm L v c m en want W':=by
 have hk:W'.ownsRow n0 54 4 v want.length (want.flatMap dtE.enc):=h.row.kept hg (by
  cases hb:v.ownBlock with
  |none=>exact .inl rfl
  |some b=>exact .inr λe=>(hr b e.symm).2.2.2.2 hb)
 exact⟨h.b.kept hg (λe=>(hr Bw e).2.1 rfl),hk,h.c.kept hg (λe=>(hr Bc e).2.2.1 rfl),h.mp.kept hg (λe=>(hr Bm e).2.2.2.1 rfl),λq hq=>(h.o q hq).kept hg (λe=>ho q hq e.symm),h.ne,h.bw,h.bc,h.bm,h.d1,h.d2,h.d3,h.bel.grown hg h.hz λr e=>(hr r e).1,h.nw⟩
theorem DIr.below (h:DIr n0 w Bw Bc Bm L v c m en want W)(hb:Below W.heap.size W W'):DIr n0 w Bw Bc Bm L v c m en want W':=h.keep_row (a2f none hb) (λr e=>by cases e) (λq _ e=>by cases e)
theorem DIr.turn (h:DIr n0 w Bw Bc Bm L v c m en want W){Z:Nat}(hz:n0<=Z)(hL:∀q∈L,q.1<Z){row:Option Nat}(hg:W.grownBy W' row)(hr:∀r,row=some r->Z<=r/\¬b3m Bw Bc Bm W r):DIr n0 w Bw Bc Bm L v c m en want W' :=
 h.keep_row hg (λr e=>⟨Nat.le_trans hz (hr r e).1,λe2=>(hr r e).2 (e2▸h.cb),λe2=>(hr r e).2 (e2▸h.cc),λe2=>(hr r e).2 (e2▸h.cm),λe2=>(hr r e).2 (h.cr e2)⟩) (λq hq e=>by
  have:=(hr _ e.symm).1;have:=hL q hq;omega)
theorem DIr.mine (h:DIr n0 w Bw Bc Bm L v c m en want W){row:Option Nat}{k:Nat}(hg:W.grownBy W' row)(hr:∀r,row=some r->¬b3m Bw Bc Bm W r)(hc:b3m Bw Bc Bm W' k):b3m Bw Bc Bm W k:=by
 rcases h.c_row (h.b.kept hg (λe=>hr _ e h.cb)) hc with rfl|rfl|rfl|hk
 ·exact h.cb
 ·exact h.cc
 ·exact h.cm
 ·exact h.cr hk
theorem DIr.keepP (h:DIr n0 w Bw Bc Bm L v c m en want W)(hb:Below W.heap.size W W'):KeepP (b3m Bw Bc Bm) n0 W W' :=
 ⟨⟨hb.size,λk hk _=>hb.block k hk,λk hc=> .inl (h.mine (a2f none hb) (λr e=>by cases e) hc)⟩,hb.mono h.hz⟩
theorem DIr.count (h:DIr n0 w Bw Bc Bm L v c m en want W)(c':Int):DIr n0 w Bw Bc Bm L v c' m en want (W.setCell ⟨Bc,0,none⟩ (.int .i64 c'))/\KeepP (b3m Bw Bc Bm) n0 W (W.setCell ⟨Bc,0,none⟩ (.int .i64 c')):=by
 have hg:=a0u W Bc 0 (.int .i64 c');have hlt:=h.c.lt;have hrow:(W.setCell ⟨Bc,0,none⟩ (.int .i64 c')).ownsRow n0 54 4 v want.length (want.flatMap dtE.enc):=a0r h.row hg λr e=>by
  cases e;exact⟨_,h.c,λcur e2=>by simp only[Obj.cells.injEq]at e2;exact absurd e2.2.1 jM⟩
 have hD:DIr n0 w Bw Bc Bm L v c' m en want (W.setCell ⟨Bc,0,none⟩ (.int .i64 c')) :=
  ⟨h.b.kept hg (λe=>by cases e;exact h.d1 rfl),hrow,h.c.set 0 _,h.mp.kept hg (λe=>by cases e;exact h.d3 rfl),λq hq=>(h.o q hq).kept hg (λe=>by cases e;exact(h.ne q hq).2.1 rfl),h.ne,h.bw,h.bc,h.bm,h.d1,h.d2,h.d3,h.bel.grown hg h.hz λr e=>by cases e;exact h.bc,h.nw⟩
 refine⟨hD,⟨⟨hg.size,λk hk hn=>hg.block k hk λe=>hn (by cases e;exact h.cc),λk hc=> .inl ?_⟩,(show Below n0 W W from zR _ _).grown hg h.hz λr e=>by cases e;exact h.bc⟩⟩;exact yjb
theorem DIr.set (h:DIr n0 w Bw Bc Bm L v c m en want W){m':Nat}{en':List (Int×Bool)}(hm:MapK prog idK boV W' Bm m' en')(hg:W.grownBy W' (some Bm)):DIr n0 w Bw Bc Bm L v c m' en' want W'/\KeepP (b3m Bw Bc Bm) n0 W W':=by
 have hrow:W'.ownsRow n0 54 4 v want.length (want.flatMap dtE.enc):=a0r h.row hg λr e=>by
  cases e;obtain⟨D,⟨es,clock,he,-⟩,-⟩:=h.mp;exact⟨_,he,λcur e2=>by cases e2⟩
 have hD:DIr n0 w Bw Bc Bm L v c m' en' want W' :=
  ⟨h.b.kept hg (λe=>by cases e;exact h.d2 rfl),hrow,h.c.kept hg (λe=>by cases e;exact h.d3 rfl),hm,λq hq=>(h.o q hq).kept hg (λe=>by cases e;exact(h.ne q hq).2.2.1 rfl),h.ne,h.bw,h.bc,h.bm,h.d1,h.d2,h.d3,h.bel.grown hg h.hz λr e=>by cases e;exact h.bm,h.nw⟩
 refine⟨hD,⟨⟨hg.size,λk hk hn=>hg.block k hk λe=>hn (by cases e;exact h.cm),λk hc=> .inl ?_⟩,(show Below n0 W W from zR _ _).grown hg h.hz λr e=>by cases e;exact h.bm⟩⟩;exact yjb
theorem DIr.add (h:DIr n0 w Bw Bc Bm L v c m en want W){v':Value}{l2:List Dt}(hg:W.grownBy W' v.ownBlock)(hr:W'.ownsRow n0 54 4 v' (want++l2).length ((want++l2).flatMap dtE.enc))(hv:v'.ownBlock=v.ownBlock\/∃b,v'.ownBlock=some b/\W.heap.size<=b) :
 Blk W' Bw #[v] 41/\DIr n0 w Bw Bc Bm L v' c m en (want++l2) (W'.setCell ⟨Bw,0,none⟩ v')/\KeepP (b3m Bw Bc Bm) n0 W (W'.setCell ⟨Bw,0,none⟩ v'):=by
 have hlo:∀r,v.ownBlock=some r->n0<=r/\r<W.heap.size:=λr e=>h.row.lt r e
 have kb:Blk W' Bw #[v] 41:=h.b.kept hg (λe=>a0o h.row h.b jM e);have kc:Blk W' Bc #[.int .i64 c] 3:=h.c.kept hg (λe=>a0o h.row h.c jM e);have hg2:=a0u W' Bw 0 v';have hobj:∀r,v.ownBlock=some r->∃cur,W.heap[r]? =some (.cells cur 54 (0,0)):=λr e=>by
  rcases h.row.2 with⟨rfl,-⟩|⟨g,cap,cur,rfl,-,hgg,-⟩
  ·cases e
  ·cases e
   exact⟨cur,hgg⟩
 have km:MapK prog idK boV W' Bm m en:=h.mp.kept hg λe=>by
  obtain⟨cur,hc⟩:=hobj _ e;obtain⟨D,⟨es,clock,he,-⟩,-⟩:=h.mp;rw[hc]at he
  cases he
 have hrow:(W'.setCell ⟨Bw,0,none⟩ v').ownsRow n0 54 4 v' (want++l2).length ((want++l2).flatMap dtE.enc):=a0r hr hg2 λr e=>by
  cases e;exact⟨_,kb,λcur e2=>by simp only[Obj.cells.injEq]at e2;exact absurd e2.2.1 jM⟩
 have hD:DIr n0 w Bw Bc Bm L v' c m en (want++l2) (W'.setCell ⟨Bw,0,none⟩ v'):=by
  refine⟨kb.set 0 v',hrow,kc.kept hg2 (λe=>by cases e;exact h.d1 rfl),km.kept hg2 (λe=>by cases e;exact h.d2 rfl),λq hq=> ?_,h.ne,h.bw,h.bc,h.bm,h.d1,h.d2,h.d3,?_,h.nw⟩
  ·refine((h.o q hq).kept hg (λe=> ?_)).kept hg2 (λe=> ?_)
   ·obtain⟨cur,hc⟩:=hobj _ e
    have h2:=h.o q hq;unfold Blk at h2;rw[hc]at h2;simp only[Option.some.injEq,Obj.cells.injEq]at h2;exact absurd h2.2.1.symm (h.ne q hq).2.2.2
   ·cases e
    exact(h.ne q hq).1 rfl
  ·exact(h.bel.grown hg h.hz λr e=>(hlo r e).1).grown hg2 (Nat.le_trans h.hz hg.size) λr e=>by cases e;exact h.bw
 refine⟨kb,hD,⟨⟨Nat.le_trans hg.size hg2.size,λk hk hn=> ?_,λk hc=> ?_⟩,?_⟩⟩
 ·exact(hg2.block k (Nat.lt_of_lt_of_le hk hg.size) λe=>hn (by cases e;exact h.cb)).trans (hg.block k hk λe=>hn (h.cr e.symm))
 ·rcases hD.c_row hD.b hc with rfl|rfl|rfl|hk
  ·exact .inl h.cb
  ·exact .inl h.cc
  ·exact .inl h.cm
  ·rcases hv with h1|⟨b,h1,h2⟩
   ·exact .inl (h.cr (h1▸hk))
   ·rw[h1]at hk
    cases hk;exact .inr h2
 ·exact((show Below n0 W W from zR _ _).grown hg h.hz λr e=>(hlo r e).1).grown hg2 (Nat.le_trans h.hz hg.size) λr e=>by cases e;exact h.bw
end
end
section
open Go Go.RowKit Go.Shelf Go.Lib Go.Maps
attribute [local go_sem] Oper.semAt_some
attribute [local go_sem ↓] Go.wp_at_zero Go.wp_at_succ
variable{Bm:Nat}
abbrev cdN (s:Sh)(pl:Pn)(wd:List Dt)(qs:List Pc):Option CD:=qs.foldlM (a8h (pfS s) pl) ⟨wd,0,[]⟩
theorem d3r (s:Sh)(pl:Pn)(wd:List Dt)(qs:List Pc)(p:Pc):cdN s pl wd (qs++[p])=(cdN s pl wd qs).bind λst=>a8h (pfS s) pl st p:=by
 unfold cdN;rw[List.foldlM_append]
 cases h:List.foldlM (a8h (pfS s) pl) ⟨wd,0,[]⟩ qs <;> simp
theorem d3s (s:Sh)(pl:Pn)(wd:List Dt)(qs rs:List Pc)(p:Pc)(h:cdN s pl wd (qs++[p])=none):cdN s pl wd (qs++p::rs)=none:=by
 unfold cdN at h ⊢;rw[show qs++p::rs=(qs++[p])++rs by simp,List.foldlM_append,h];rfl
def CI (n0:Nat)(w:World)(Bw Bc Bm:Nat)(L:List (Nat×Array Value×TypeId))(s:Sh)(pl:Pn)(wd:List Dt)(pre:List (Pc×Value))(W:World):Prop :=
 ∃v m en st,cdN s pl wd (pre.map Prod.fst)=some st/\m<=pre.length/\st.left<=pre.length/\st.want.length<=wd.length+33*pre.length/\SetI en st.last/\DIr n0 w Bw Bc Bm L v (st.left:Nat) m en st.want W
theorem d0c {l:List Dt}{v:Value}{W W':World}{m:Nat}{en:List (Int×Bool)}(h:Lst dtE W.heap.size W v l)(hg:W.grownBy W' (some Bm))(hm:MapK prog idK boV W Bm m en):Lst dtE W'.heap.size W' v l:=by
 obtain⟨D,⟨es,clock,ho,-⟩,-⟩:=hm;obtain⟨a,cap,e,c1,c2,c3⟩:=h;refine⟨a,cap,e,c1,c2,λj hj=> ?_⟩;obtain⟨b,off,rfl,hb,hc⟩:=c3 j hj;refine⟨b,off,rfl,Nat.lt_of_lt_of_le hb hg.size,λi hi=> ?_⟩;have h0:=hc i hi;have hne:b≠Bm:=λe=>by
  subst e;have h1:W.cell? ⟨b,off+j*dtE.s+i,none⟩=none:=a3j ho rfl;rw[h1]at h0;have h2:i<(dtE.enc l[j]).length:=hi;rw[List.getElem?_eq_getElem h2]at h0
  cases h0
 exact(a5f (hg.block b hb λe=>hne (by cases e;rfl))).trans h0
def a3t (s:Sh)(n Bl Bm:Nat)(dv kv lv:Value):List (Nat×Array Value×TypeId):=[(n+1,#[.int .i64 s.ax,.int .i64 s.ay,.int .i64 s.st,.int .i64 s.w,.int .i64 s.h,.int .i64 s.g],28),(n+1+1,#[dv,kv,lv],45),(Bl,#[.map (some Bm)],169)]
theorem a4a {s:Sh}{n Bl:Nat}{dv kv lv:Value}{Q:Nat×Array Value×TypeId->Prop}(h1:Q (n+1,#[.int .i64 s.ax,.int .i64 s.ay,.int .i64 s.st,.int .i64 s.w,.int .i64 s.h,.int .i64 s.g],28))(h2:Q (n+1+1,#[dv,kv,lv],45))(h3:Q (Bl,#[.map (some Bm)],169)):∀q∈a3t s n Bl Bm dv kv lv,Q q:=by
 intro q hq;unfold a3t at hq;rw[List.mem_cons,List.mem_cons,List.mem_singleton]at hq;rcases hq with rfl|rfl|rfl
 ·exact h1
 ·exact h2
 ·exact h3
theorem d3t (s:Sh)(f0:fits s.ax)(f1:fits s.ay)(hs:a1g s=0)(ev fv wv pv dv kv lv:Value)(l:List Pc)(ws:List Wy)(pl:Pn)(w:World)(hL:Lst plE w.heap.size w pv l)(hF:Frm pv l.length)(hl:l.length<=100)(hok:∀p∈l,PcOk p/\p.cls.size<=1000)
 (hW:Wys w.heap.size w wv ws) (hid:∀y∈ws,fits y.id) (hlen:ws.length<=100) (hpl:∀y∈ws,y.line.length<=100) (hPow:∀W,Below w.heap.size w W->Pow W)
 (hd:Lst dtE w.heap.size w dv pl.dots) (hlf:Lst lfE w.heap.size w lv pl.left) (hff:Frm lv pl.left.length) :
 Calls prog 48 #[b7q ev fv wv pv,shV s,a3s dv kv lv] w λe w'=>(cdF (pfS s) pl (wdF s ws) (a0t l)=true/\e= .returned (.tuple #[])\/cdF (pfS s) pl (wdF s ws) (a0t l)=false/\e= .panicked (c2s 42))/\Below w.heap.size w w':=by
 have hsk:=a4h hs;obtain⟨pa,pc,rfl,-⟩:=hL.form;obtain⟨da,dc,rfl,-⟩:=hd.form;obtain⟨la,lc,rfl,-⟩:=hlf.form;have hWy:=λw4 (hb:Below w.heap.size w w4)=>(callsIn_wide (n:=3)).1 (c8s s wv ws w4 hs hid (hW.up hb hb.size) hlen hpl)
 have hCa:=λw4=>a4t s ev fv wv (.slice pa l.length pc) w4
 refine(callsIn_wide (n:=3)).1 ?_;refine a8u (f:=48) func48 rfl trivial rfl ?_;simp only[ntmps48,List.size_toArray,List.length_cons,List.length_nil,Nat.reduceAdd,Nat.reduceSub,Array.replicate_succ,Array.replicate_zero,List.push_toArray,List.append_toArray,List.nil_append,List.cons_append];refine AtFn.seq (AtFn.of (wpIn_wide.2 ?_));go_wp2_with fail;have k1:=((Blk.new w #[ev,fv,wv,.slice pa l.length pc] 37).alloc (.cells #[.int .i64 s.ax,.int .i64 s.ay,.int .i64 s.st,.int .i64 s.w,.int .i64 s.h,.int .i64 s.g] 28)).alloc (.cells #[.slice da pl.dots.length dc,kv,.slice la pl.left.length lc] 45);have k2:=(Blk.new (w.alloc (.cells #[ev,fv,wv,.slice pa l.length pc] 37)) #[.int .i64 s.ax,.int .i64 s.ay,.int .i64 s.st,.int .i64 s.w,.int .i64 s.h,.int .i64 s.g] 28).alloc (.cells #[.slice da pl.dots.length dc,kv,.slice la pl.left.length lc] 45);have k3:=Blk.new ((w.alloc (.cells #[ev,fv,wv,.slice pa l.length pc] 37)).alloc (.cells #[.int .i64 s.ax,.int .i64 s.ay,.int .i64 s.st,.int .i64 s.w,.int .i64 s.h,.int .i64 s.g] 28)) #[.slice da pl.dots.length dc,kv,.slice la pl.left.length lc] 45;have hw1:Below w.heap.size w (((w.alloc (.cells #[ev,fv,wv,.slice pa l.length pc] 37)).alloc (.cells #[.int .i64 s.ax,.int .i64 s.ay,.int .i64 s.st,.int .i64 s.w,.int .i64 s.h,.int .i64 s.g] 28)).alloc (.cells #[.slice da pl.dots.length dc,kv,.slice la pl.left.length lc] 45)):=(((zR _ _).alloc (yR _) _).alloc vM _).alloc uM _;obtain⟨W1,hW1⟩:=zE (((w.alloc (.cells #[ev,fv,wv,.slice pa l.length pc] 37)).alloc (.cells #[.int .i64 s.ax,.int .i64 s.ay,.int .i64 s.st,.int .i64 s.w,.int .i64 s.h,.int .i64 s.g] 28)).alloc (.cells #[.slice da pl.dots.length dc,kv,.slice la pl.left.length lc] 45));have hz1:W1.heap.size=w.heap.size+1+1+1:=by rw[<-hW1];simp
 simp only[World.size_alloc]at k1 k2 k3;rw[hW1]at k1 k2 k3 hw1 ⊢;clear hW1;refine AtFn.seq (AtFn.of (wpIn_wide.2 ?_));obtain⟨m0,m1,m2,m3⟩:=zN4 k1;obtain⟨s0,s1,s2,s3,s4,s5⟩:=zN6 k2;go_wp2_with (first
  |(go_at_call 34;(with_reducible refine(hWy _ hw1).mono ?_);rintro e W2⟨v,base,rfl,hbase,hrow,hb2⟩
    clear m0 m1 m2 m3 s0 s1 s2 s3 s4 s5;obtain⟨va,vc,rfl⟩:∃a c,v= .slice a (wdF s ws).length c:=by
     obtain⟨a,c,h,-⟩:=(a0h a8a hrow (by have:=a7l hsk ws;unfold wdF at this;omega)).form;exact⟨a,c,h⟩))
 have hz2:=hb2.size;refine AtFn.seq (AtFn.of (wpIn_wide.2 ?_));go_wp2_with fail;have hmm:= @run_makeMap prog;refine AtFn.seq (AtFn.of (wpIn_wide.2 ?_));go_wp2_with fail;clear hmm;refine AtFn.seq (AtFn.seq (AtFn.of (wpIn_wide.2 ?_)));have hkw:=((((Blk.new W2 #[.slice va (wdF s ws).length vc] 41).alloc (.cells #[.int .i64 0] 3)).alloc (.map #[] 0)).alloc (.cells #[.map (some (W2.heap.size+1+1))] 169));have hkc:=(((Blk.new (W2.alloc (.cells #[.slice va (wdF s ws).length vc] 41)) #[.int .i64 0] 3).alloc (.map #[] 0)).alloc (.cells #[.map (some (W2.heap.size+1+1))] 169));have hkm:=(MapK.made prog idK boV ((W2.alloc (.cells #[.slice va (wdF s ws).length vc] 41)).alloc (.cells #[.int .i64 0] 3))).alloc (.cells #[.map (some (W2.heap.size+1+1))] 169);have hkl:=Blk.new (((W2.alloc (.cells #[.slice va (wdF s ws).length vc] 41)).alloc (.cells #[.int .i64 0] 3)).alloc (.map #[] 0)) #[.map (some (W2.heap.size+1+1))] 169;have hrow4:=((((b6r hrow (Nat.le_trans hw1.size hbase)).alloc (.cells #[.slice va (wdF s ws).length vc] 41)).alloc (.cells #[.int .i64 0] 3)).alloc (.map #[] 0)).alloc (.cells #[.map (some (W2.heap.size+1+1))] 169);have hb24:Below W1.heap.size W1 ((((W2.alloc (.cells #[.slice va (wdF s ws).length vc] 41)).alloc (.cells #[.int .i64 0] 3)).alloc (.map #[] 0)).alloc (.cells #[.map (some (W2.heap.size+1+1))] 169)):=(((hb2.alloc hz2 _).alloc uM _).alloc uM _).alloc uM _;simp only[World.size_alloc]at hkw hkc hkm hkl;obtain⟨W4,hW4⟩:=zE ((((W2.alloc (.cells #[.slice va (wdF s ws).length vc] 41)).alloc (.cells #[.int .i64 0] 3)).alloc (.map #[] 0)).alloc (.cells #[.map (some (W2.heap.size+1+1))] 169));have hz4:W4.heap.size=W2.heap.size+1+1+1+1:=by rw[<-hW4];simp
 rw[hW4]at hkw hkc hkm hkl hrow4 hb24 ⊢;clear hW4;have kl1:=k2.below hb24 k2.lt;have kl2:=k3.below hb24 k3.lt;have km1:=k1.below hb24 k1.lt;obtain⟨Bw,hBw⟩:=zE W2.heap.size;rw[hBw]at hkw hkc hkm hkl hz4 hz2 ⊢;have hw4:Below w.heap.size w W4:=hw1.trans (hb24.mono hw1.size);have hD0:DIr w.heap.size w Bw (Bw+1) (Bw+1+1) (a3t s w.heap.size (Bw+1+1+1) (Bw+1+1) (.slice da pl.dots.length dc) kv (.slice la pl.left.length lc)) (.slice va (wdF s ws).length vc) ((0:Nat):Int) 0 [] (wdF s ws) W4:=by
  refine⟨hkw,hrow4,hkc,hkm,a4a kl1 kl2 hkl,a4a ⟨?_,?_,?_,show(28:Nat)≠54 by decide⟩ ⟨?_,?_,?_,show(45:Nat)≠54 by decide⟩ ⟨?_,?_,?_,show(169:Nat)≠54 by decide⟩,oM,oM,oM,oM,oM,oM,hw4,yR _⟩
  all_goals (simp only;omega)
 obtain⟨m0,m1,m2,m3⟩:=zN4 km1;obtain⟨s0,s1,s2,s3,s4,s5⟩:=zN6 kl1;go_wp2_with (first
  |(go_at_call 35;(with_reducible refine(hCa _).mono ?_);rintro e W5⟨rfl,km,ks,hb5⟩))
 rw[hz4]at km ks hb5;have hw5:Below w.heap.size w W5:=hw4.trans (hb5.mono (by have:=hw4.size;omega));have hD5:=hD0.below (by rw[hz4];exact hb5);have hz5:=hb5.size;clear hD0 m0 m1 m2 m3 s0 s1 s2 s3 s4 s5 k1 k2 k3 kl1 kl2 km1 hkw hkc hkm hkl hrow4 hrow hb24 hb2 hCa hWy hw1 hBw hbase;have hZ:∀q∈(a3t s w.heap.size (Bw+1+1+1) (Bw+1+1) (.slice da pl.dots.length dc) kv (.slice la pl.left.length lc)),q.1<W5.heap.size:=a4a (by simp only;omega) (by simp only;omega) (by simp only;omega);have hseq:=b6n 2 oM s f0 f1 ev fv wv (.slice pa l.length pc) l hl hok (b3m Bw (Bw+1) (Bw+1+1)) w.heap.size W5 (Bw+1+1+1+1) (Bw+1+1+1+1+1) km ks (hL.up hw5) hF hw5.size
  (λW k hb hc=>by
   have hDW:=hD5.below hb;rcases hD5.c_row hDW.b hc with rfl|rfl|rfl|hk
   ·exact⟨oM,oM⟩
   ·exact⟨oM,oM⟩
   ·exact⟨oM,oM⟩
   ·refine⟨λe=> ?_,λe=> ?_⟩
    ·subst e
     exact a0o hD5.row km jM hk
    ·subst e
     exact a0o hD5.row ks jM hk)
  (λW hb=>hPow W (hw5.trans (hb.mono (yR _))))
 refine AtFn.block ?_;refine a7m (α:=Pc×Value) 19 9 (λx=>d8l s x) rfl oM rfl trivial (enters_of func84 zM rfl) (d3q Bw (Bw+1) (Bw+1+1)) (b6v Bw (Bw+1) (Bw+1+1)) (c6r Bw (Bw+1) (Bw+1+1)) (λk=>c3b) (n0:=w.heap.size) hw5.size (Kx:=KxC s (a0t l)) (λpre x W l o o' h1 h2 h3=>KxC.put h1 (a1o h2) (a1o h3)) (S:=λxs=>xs.map Prod.fst=a0t l) (N:=101) (w0:=W5) hseq (zR _ _)
  (λpre W=>CI w.heap.size w Bw (Bw+1) (Bw+1+1) (a3t s w.heap.size (Bw+1+1+1) (Bw+1+1) (.slice da pl.dots.length dc) kv (.slice la pl.left.length lc)) s pl (wdF s ws) pre W) ?hI ?hIC ?h0 (λch W=>ch=c2s 42/\cdF (pfS s) pl (wdF s ws) (a0t l)=false/\Below w.heap.size w W) ⟨_,func48⟩ trivial 92 (λx=> #[.int .i64 x.1.id,.int .i64 x.1.x,.int .i64 x.1.y,.string x.1.cls,.string x.1.nm,.int .i64 x.1.wt,.int .i64 x.1.ds,x.2,.bool (pfS s x.1).1]) (λpre x W o h=>h.alloc o) (λpre W k h hc=>c3b hc) ?assign ?body ?hpan ?done
 case hI =>
  rintro pre A A' row⟨v,m,en,st,h1,h2,h3,h4,h5,h6⟩ hg hr;exact⟨v,m,en,st,h1,h2,h3,h4,h5,h6.turn hw5.size hZ hg hr⟩
 case hIC =>
  rintro pre A A' row k⟨v,m,en,st,h1,h2,h3,h4,h5,h6⟩ hg hr hc;exact h6.mine hg hr hc
 case h0=>exact⟨_,0,[],⟨wdF s ws,0,[]⟩,rfl,yR _,yR _,yR _,SetI.nil,hD5⟩
 case assign =>
  exact ycp
 case body =>
  clear hseq km ks hD5;rintro ly pre⟨⟨id,x,y,cls,nm,wt,ds⟩,xv⟩ W B ⟨v,m,en,st,hcn,hm,hlf',hwl',hset,hD⟩ ⟨⟨rs,hsp⟩,hdl,hdf⟩ hB hBge hBne hlt;have hpm:(⟨id,x,y,cls,nm,wt,ds⟩:Pc)∈a0t l:=by rw[hsp];simp
  obtain⟨hpo,hpc⟩:=hok _ ((a1c l).mem_iff.1 hpm);have hwl:=a7l hsk ws;have hpl33:=b2z s ⟨id,x,y,cls,nm,wt,ds⟩;have hst:cdN s pl (wdF s ws) ((pre++[((⟨id,x,y,cls,nm,wt,ds⟩:Pc),xv)]).map Prod.fst)=a8h (pfS s) pl st ⟨id,x,y,cls,nm,wt,ds⟩:=by
   rw[List.map_append];refine(d3r s pl (wdF s ws) (pre.map Prod.fst) _).trans ?_;rw[hcn];rfl
  have hno:a8h (pfS s) pl st ⟨id,x,y,cls,nm,wt,ds⟩=none->cdF (pfS s) pl (wdF s ws) (a0t l)=false:=λh=>by
   rw[h,List.map_append]at hst;have h2:=d3s s pl (wdF s ws) (pre.map Prod.fst) rs _ hst;unfold cdF;have h3:List.foldlM (a8h (pfS s) pl) ⟨wdF s ws,0,[]⟩ (a0t l)=none:=by rw[hsp];exact h2
   rw[h3]
  have hkr:KeepP (b3m Bw (Bw+1) (Bw+1+1)) w.heap.size W W:=⟨⟨yR _,λ_ _ _=>rfl,λk hc=> .inl hc⟩,zR _ _⟩;have hWy:=λ(X:World) (hb:Below w.heap.size w X)=>c2t (.slice da pl.dots.length dc) kv (.slice la pl.left.length lc) pl id X (hlf.up hb) hff
  obtain⟨⟨on,dl⟩,hpf⟩:∃r,pfS s ⟨id,x,y,cls,nm,wt,ds⟩=r:=⟨_,rfl⟩;unfold a8h at hst hno;simp only[hpf]at hB hdl hdf hpl33 hst hno;obtain⟨xa,xc,rfl,-⟩:=hdl.form;obtain⟨wn,lf,las⟩:=st;simp only at hlf' hwl' hset hD hst hno;have hzW:=hD.hz;have b0:W.cell? ⟨B,0,none⟩=some (.int .i64 id):=hB.cell 0;have hLl:Blk W (Bw+1+1+1) #[.map (some (Bw+1+1))] 169:=hD.o (Bw+1+1+1,#[.map (some (Bw+1+1))],169) (by unfold a3t;simp);have l0:W.cell? ⟨Bw+1+1+1,0,none⟩=some (.map (some (Bw+1+1))):=hLl.cell 0;have hLk:=c3a hD.mp hpo.id;rw[hset id]at hLk;by_cases hin:id∈las
  ·rw[decide_eq_true hin]at hLk
   rw[if_pos hin]at hno;clear hst;gi_wp2_with (first
    |(refine⟨trivial,?_⟩;gi_at_call 106;refine(CallsIn.inRound ly (callsIn_wide.2 (a2u 42 _))).mono ?_;rintro e w9⟨rfl,rfl⟩))
   exact⟨by rw[<-hsp];exact hno vM,hD.bel⟩
  ·rw[decide_eq_false hin]at hLk
   rw[if_neg hin]at hno hst;clear hin;gi_upto_region 8 with(first
    |(refine⟨trivial,?_⟩;gi_at_call 106;refine(CallsIn.inRound ly (callsIn_wide.2 (a3d 42 _))).mono ?_;rintro e w9⟨rfl,rfl⟩)
    |(gi_at_mapUpdate;refine MapK.wpIn_store d9g qM _ _ _ 169 qM underlying169 qM hD.mp oK hpo.id qM (y:=true) qM (plainElem_bool underlying4 true) ?_;intro w7 hM7 hg7))
   obtain⟨hD7,hk7⟩:=hD.set hM7 hg7;have hB7:=(hk7.k.same B hB.lt (λh=>hBne _ h rfl)).trans hB;replace hB7:Blk w7 B _ _:=hB7;have hP7:Blk w7 (w.heap.size+1+1) #[.slice da pl.dots.length dc,kv,.slice la pl.left.length lc] 45:=hD7.o (w.heap.size+1+1,#[.slice da pl.dots.length dc,kv,.slice la pl.left.length lc],45) (by unfold a3t;simp);obtain⟨q0,q1,q2⟩:=zN3 hP7;have r0:w7.cell? ⟨B,0,none⟩=some (.int .i64 id):=hB7.cell 0;have hset7:=hset.put id;have hdl7:=d0c hdl hg7 hD.mp;have hWy7:=hWy w7 hD7.bel;clear b0 l0 hLk hLl hM7 hg7 hWy
   cases hwy:why pl id with
   |some k =>
    rw[hwy]at hWy7 hno hst;simp only[b2b]at hWy7 hno hst;have hk0:¬((k:Nat):Int)<0:=oM;have hk1:(0:Int)<=(k:Nat):=oM;clear hwy;by_cases hkl:k=lf
    ·rw[if_pos hkl]at hst
     have hkI:(((k:Nat):Int)==((lf:Nat):Int))=true:=by simp[hkl]
     have hwr:IntKind.i64.wrap ((lf:Int)+1)=((lf+1:Nat):Int):=by rw[a0k oM oM];omega
     clear hkl hno;gi_wp2_with (first
      |(refine⟨trivial,?_⟩;gi_at_call 107;refine(CallsIn.inRound ly (callsIn_wide.2 hWy7)).mono ?_;rintro e w8⟨rfl,hb8⟩
        have hD8:=hD7.below hb8;have hk8:=hk7.trans (hD7.keepP hb8);have u0:w8.cell? ⟨Bw+1,0,none⟩=some (.int .i64 (lf:Nat)):=hD8.c.cell 0;have u9:=hD8.c.frozen 0)
      |(refine⟨trivial,?_⟩;gi_at_call 106;refine(CallsIn.inRound ly (callsIn_wide.2 (a3d 42 _))).mono ?_;rintro e w9⟨rfl,rfl⟩))
     obtain⟨hD10,hk10⟩:=hD8.count ((lf:Int)+1);exact⟨hk8.trans hk10,_,m+1,_,_,hst,by simp;omega,by simp;omega,by simp;omega,hset7,hD10⟩
    ·rw[if_neg hkl]at hno
     have hkI:(((k:Nat):Int)==((lf:Nat):Int))=false:=by simp;omega
     clear hst hkl;gi_wp2_with (first
      |(refine⟨trivial,?_⟩;gi_at_call 107;refine(CallsIn.inRound ly (callsIn_wide.2 hWy7)).mono ?_;rintro e w8⟨rfl,hb8⟩
        have hD8:=hD7.below hb8;have hk8:=hk7.trans (hD7.keepP hb8);have u0:w8.cell? ⟨Bw+1,0,none⟩=some (.int .i64 (lf:Nat)):=hD8.c.cell 0)
      |(refine⟨trivial,?_⟩;gi_at_call 106;refine(CallsIn.inRound ly (callsIn_wide.2 (a2u 42 _))).mono ?_;rintro e w9⟨rfl,rfl⟩))
     exact⟨by rw[<-hsp];exact hno vM,hD8.bel⟩
   |none =>
    rw[hwy]at hWy7 hno hst;simp only[b2b]at hWy7 hno hst;obtain⟨wa,wc,hwv,-⟩:=(a0h a8a hD7.row oM).form;subst hwv;clear hwy
    cases on
    ·rw[if_neg jM]at hno
     clear hst;gi_wp2_with (first
      |(refine⟨trivial,?_⟩;gi_at_call 107;refine(CallsIn.inRound ly (callsIn_wide.2 hWy7)).mono ?_;rintro e w8⟨rfl,hb8⟩
        have hD8:=hD7.below hb8;have hk8:=hk7.trans (hD7.keepP hb8);have hB8:=hB7.below hb8 hB7.lt;have u7:w8.cell? ⟨B,7,none⟩=some (.slice xa dl.length xc):=hB8.cell 7;have u8:w8.cell? ⟨B,8,none⟩=some (.bool false):=hB8.cell 8;have uw:w8.cell? ⟨Bw,0,none⟩=some (.slice wa wn.length wc):=hD8.b.cell 0)
      |(refine⟨trivial,?_⟩;gi_at_call 106;refine(CallsIn.inRound ly (callsIn_wide.2 (a2u 42 _))).mono ?_;rintro e w9⟨rfl,rfl⟩))
     exact⟨by rw[<-hsp];exact hno vM,hD8.bel⟩
    ·rw[if_pos rfl]at hst
     clear hno;gi_wp2_with (first
      |(refine⟨trivial,?_⟩;gi_at_call 107;refine(CallsIn.inRound ly (callsIn_wide.2 hWy7)).mono ?_;rintro e w8⟨rfl,hb8⟩
        have hD8:=hD7.below hb8;have hk8:=hk7.trans (hD7.keepP hb8);have hB8:=hB7.below hb8 hB7.lt;have u7:w8.cell? ⟨B,7,none⟩=some (.slice xa dl.length xc):=hB8.cell 7;have u8:w8.cell? ⟨B,8,none⟩=some (.bool true):=hB8.cell 8;have uw:w8.cell? ⟨Bw,0,none⟩=some (.slice wa wn.length wc):=hD8.b.cell 0)
      |(refine⟨trivial,?_⟩;gi_at_call 106;refine(CallsIn.inRound ly (callsIn_wide.2 (a3d 42 _))).mono ?_;rintro e w9⟨rfl,rfl⟩)
      |(gi_at_builtin;refine El.allIn a8a d9j qM _ _ qM w.heap.size qM wn hD8.row dl qM (hdl7.up hb8) hdf oM hD8.hz (λ_ _=>trivial) ?_
        intro v9 w10 hr9 hg9 hb9 hat;obtain⟨kp9,hD9,hk9⟩:=hD8.add hg9 hr9 (hat.imp (λe=>e) λe=>⟨_,e,yR _⟩);obtain⟨a9,n9,c9,rfl⟩:∃a n c,v9= .slice a n c:=by
         exact ygo
        have t0:w10.cell? ⟨Bw,0,none⟩=some (.slice wa wn.length wc):=kp9.cell 0;have t9:=kp9.frozen 0;clear hr9 hg9 hb9 hat))
     exact⟨hk8.trans hk9,_,m+1,_,_,hst,by simp;omega,by simp;omega,by simp;omega,hset7,hD9⟩
 case hpan =>
  exact yek
 case done =>
  rintro D xs W hDs hS⟨v,m,en,st,h1,-,-,h4,-,h6⟩ hK;have hxl:xs.length<=100:=by have:=congrArg List.length hS;rw[List.length_map,(a1c l).length_eq]at this;omega
  rw[hS]at h1;have hwl:=a7l hsk ws;obtain⟨wn,lf,la_⟩:=st;simp only at h4 h6;have hP:Blk W (w.heap.size+1+1) #[.slice da pl.dots.length dc,kv,.slice la pl.left.length lc] 45:=h6.o (w.heap.size+1+1,#[.slice da pl.dots.length dc,kv,.slice la pl.left.length lc],45) (by unfold a3t;simp);have c0:W.cell? ⟨w.heap.size+1+1,0,none⟩=some (.slice da pl.dots.length dc):=hP.cell 0;have c2:W.cell? ⟨w.heap.size+1+1,2,none⟩=some (.slice la pl.left.length lc):=hP.cell 2;have cl:W.cell? ⟨Bw+1,0,none⟩=some (.int .i64 (lf:Nat)):=h6.c.cell 0;have cw:W.cell? ⟨Bw,0,none⟩=some v:=h6.b.cell 0;have hEq:=d8o v (.slice da pl.dots.length dc) wn pl.dots W (a0h a8a h6.row oM) (hd.up h6.bel);obtain⟨xa,xc,rfl,-⟩:=(a0h a8a h6.row oM).form;have hbel:=h6.bel;have hzb:=hbel.size;have hcd:cdF (pfS s) pl (wdF s ws) (a0t l)=(decide (lf=pl.left.length)&&decide (wn=pl.dots)):=by
   unfold cdF;have h1':List.foldlM (a8h (pfS s) pl) ⟨wdF s ws,0,[]⟩ (a0t l)=some ⟨wn,lf,la_⟩:=h1;rw[h1']
  have hfin:∀(W9:World),Below W.heap.size W W9->(W9.heap[D]? =some (.deferred (some []))/\Below w.heap.size w (W9.putObj D (.deferred none))):=λW9 hb9=>by
   have hDlt:D<W.heap.size:=(Array.getElem?_eq_some_iff.1 hK).1;have hg1:=grownBy_putObj' W9 D (.deferred none);exact⟨(hb9.block D hDlt).trans hK,(hbel.trans (hb9.mono hbel.size)).grown hg1 (Nat.le_trans hbel.size hb9.size) λr e=>by cases e;have:=hw5.size;omega⟩
  clear hseq hS hD5 km ks h6 h1 hP hd hlf hff hZ hPow hL hF;refine AtFn.of (wpIn_wide.2 ?_);by_cases hl1:lf=pl.left.length
  ·have hlI:(((lf:Nat):Int)==((pl.left.length:Nat):Int))=true:=by simp[hl1]
   have hdl:decide (lf=pl.left.length)=true:=decide_eq_true hl1;clear hl1;by_cases he:wn=pl.dots
   ·rw[decide_eq_true he]at hEq
    rw[hdl,decide_eq_true he]at hcd;clear he hdl;go_wp2_with (first
     |(go_at_call 56;(with_reducible refine hEq.mono ?_);rintro e w8⟨rfl,hb8⟩)
     |(go_at_call 106;refine(a3d 42 _).mono ?_;rintro e w9⟨rfl,rfl⟩))
    obtain⟨hK9,hB9⟩:=hfin _ hb8;refine⟨by simp,.inl ⟨_,_,rfl,run_takeDeferred hK9,?_⟩⟩;exact⟨_,results_none rfl _ _ _,by first|exact .inl ⟨hcd,rfl⟩|rfl,hB9⟩
   ·rw[decide_eq_false he]at hEq
    rw[hdl,decide_eq_false he]at hcd;clear he hdl;go_wp2_with (first
     |(go_at_call 56;(with_reducible refine hEq.mono ?_);rintro e w8⟨rfl,hb8⟩)
     |(go_at_call 106;refine(a2u 42 _).mono ?_;rintro e w9⟨rfl,rfl⟩))
    obtain⟨hK9,hB9⟩:=hfin _ hb8;exact yhz
  ·have hlI:(((lf:Nat):Int)==((pl.left.length:Nat):Int))=false:=by simp;omega
   rw[decide_eq_false hl1]at hcd;clear hl1;go_wp2_with (first
    |(go_at_call 106;refine(a2u 42 _).mono ?_;rintro e w9⟨rfl,rfl⟩))
   obtain⟨hK9,hB9⟩:=hfin _ (zR _ _);exact yhz
end
section
open Go Go.RowKit Go.Shelf Go.Lib
attribute [local go_sem] Oper.semAt_some
attribute [local go_sem ↓] Go.wp_at_zero Go.wp_at_succ
theorem c3c (v:Value)(l:List Dt)(w:World)(h:Lst dtE w.heap.size w v l)(hf:Frm v l.length)(hl:l.length<=100000) :
 Calls prog 109 #[v] w λe w'=>∃u,e= .returned u/\w'.ownsRow w.heap.size 54 4 u l.length (l.flatMap dtE.enc)/\Below w.heap.size w w':=by
 rcases hf with rfl|⟨b,off,cap,rfl⟩
 ·obtain⟨a,cap,e,-⟩:=h.form
  simp only[Value.slice.injEq]at e;obtain⟨-,e,-⟩:=e;obtain rfl:=List.eq_nil_of_length_eq_zero e.symm;refine(AnyE.slices_Clone_nil Tryz.cloneDt 0 0 w).mono ?_;exact yju
 ·obtain⟨i0,hi0,hz0,hz1,hz2⟩:=info_parts (P:=prog) (e:=54) (z:= .agg #[.int .i64 0,.int .i64 0,.int .i64 0,.int .i64 0]) (size:=4) (bytes:=32) zM
  refine(AnyE.slices_Clone Tryz.cloneDt i0 _ 4 32 hi0 hz0 hz1 hz2 qM oM sizeOf54 b off l.length cap (l.flatMap dtE.enc) w (a0v a8a l) oK oM (h.flat a8a) (a4g a8a l)).mono ?_;rintro e w'⟨u,rfl,hr,-,hb⟩;exact⟨u,rfl,hr,hb⟩
def a5o (k i:Int)(d:Dt):Bool:=decide (d.k≠k)||decide (d.i≠i)
theorem b0n (d:Dt)(B:Nat)(p k i:Int)(w:World)(h:Blk w B #[.int .i64 p,.int .i64 k,.int .i64 i] 68) :
 Calls prog 110 #[.agg (a2c d).toArray,.pointer (some ⟨B,0,none⟩)] w λe w'=>e= .returned (.bool (a5o k i d))/\Below w.heap.size w w':=by
 obtain⟨dx,dy,dk,di⟩:=d;have hBl:=h.lt;have c1:w.cell? ⟨B,1,none⟩=some (.int .i64 k):=h.cell 1;have c2:w.cell? ⟨B,2,none⟩=some (.int .i64 i):=h.cell 2;unfold a5o;by_cases h1:dk=k
 ·have hb1:(dk != k)=false:=by simpa using h1
  by_cases h2:di=i
  ·have hb2:(di != i)=false:=by simpa using h2
   have hr:(decide (dk≠k)||decide (di≠i))=false:=by simp[h1,h2]
   rw[hr];clear h1 h2 hr h;go_enter func110,ntmps110;exact yed
  ·have hb2:(di != i)=true:=by simpa using h2
   have hr:(decide (dk≠k)||decide (di≠i))=true:=by simp[h2]
   rw[hr];clear h1 h2 hr h;go_enter func110,ntmps110;exact yed
 ·have hb1:(dk != k)=true:=by simpa using h1
  have hr:(decide (dk≠k)||decide (di≠i))=true:=by simp[h1]
  rw[hr];clear h1 hr h;go_enter func110,ntmps110;exact yed
end
section
open Go
variable{g:Int}
theorem d8s {a b:Dt}(ha:Sm a)(hb:Sm b):okW g a b=d5w g a b:=by
 unfold okW d5w;rw[b5v ha hb]
theorem b3c {α:Type}{p q:α->Bool}:∀ {l:List α},(∀x∈l,p x=q x)->l.all p=l.all q
 |[],_=>rfl
 |x::l,h=>by
  rw[List.all_cons,List.all_cons,h x (List.mem_cons_self ..),b3c λy hy=>h y (List.mem_cons_of_mem _ hy)]
theorem d6x {l:List Dt}(h:∀d∈l,Sm d):c2u g l=d2e g l:=by
 unfold c2u d2e;refine b3c λk hk=> ?_
 unfold b5a
 cases hl:l[k]? with
 |none=>simp
 |some a =>
  have ha:=h a (List.mem_of_getElem? hl);exact b3c λb hb=>d8s ha (h b (List.mem_of_mem_take hb))
end
section
open Go.RowKit Go.Shelf Go.Lib Go.Sort
attribute [local go_sem] Oper.semAt_some
attribute [local go_sem ↓] Go.wp_at_zero Go.wp_at_succ
variable{l:List Dt}{N base blk cap g i j n off:Nat}{W W' w:World}
theorem b3d (d:Array Dt)(t:Nat)(ht:t<d.size*4):(d.toList.flatMap dtE.enc)[t]? =some (flatK dtE.enc 4 d)[t]! :=by
 have hq:t / 4<d.toList.length:=by simp;omega
 have hr:t % 4<4:=Nat.mod_lt _ jM;have e1:t / 4*4+t % 4=t:=oM;have h2:=a9b a8a d.toList (t / 4) (t % 4) hq hr;rw[show dtE.s=4 from rfl,e1]at h2;rw[h2,get_flatK _ _ _ _ ht];have hqa:t / 4<d.size:=oM;rw[getElem!_pos d (t / 4) hqa];have hl:t % 4<(dtE.enc d[t / 4]).length:=hr;rw[getElem!_pos (dtE.enc d[t / 4]) (t % 4) hl];simp only[Array.getElem_toList];exact List.getElem?_eq_getElem hl
abbrev RowD (W:World)(blk off:Nat)(d:Array Dt):Prop:=HoldsK dtE.enc 4 W blk off d
theorem RowD.same {d:Array Dt}(h:RowD W blk off d)(hs:W'.heap[blk]? =W.heap[blk]?):RowD W' blk off d:=λj hj =>
 ⟨(b7t hs).trans (h j hj).1,(b1n hs _).trans (h j hj).2⟩
def RowBD (W:World)(blk N:Nat):Prop:=∃cur,Blk W blk cur 54/\cur.size=N
theorem RowBD.same (h:RowBD W blk N)(hs:W'.heap[blk]? =W.heap[blk]?):RowBD W' blk N:=by
 obtain⟨cur,h1,h2⟩:=h;exact⟨cur,hs.trans h1,h2⟩
theorem RowBD.setCells {blk N:Nat}:∀(vs:List Value) (o:Nat) (W:World),RowBD W blk N->RowBD (W.setCells blk o vs) blk N
 |[],_,_,h=>h
 |v::vs,o,W,⟨cur,h1,h2⟩=>RowBD.setCells vs (o+1) _ ⟨_,h1.set o v,by simpa using h2⟩
theorem RowBD.lt (h:RowBD W blk N):blk<W.heap.size:=h.choose_spec.1.lt
structure SoD (w:World)(blk off N:Nat)(n:Nat)(d:Array Dt)(W:World):Prop where
 row:RowD W blk off d
 rb:RowBD W blk N
 gr:w.grownBy W (some blk)
 sz:d.size=n
theorem SoD.below {d:Array Dt}(h:SoD w blk off N n d W)(hb:Below W.heap.size W W'):SoD w blk off N n d W' :=
 have e:=hb.block blk h.rb.lt
 ⟨h.row.same e,h.rb.same e,a2e h.gr (a2f _ hb),h.sz⟩
theorem c6s {d:Array Dt}(h:SoD w g 0 (cap*4) n d W)(hb:base<=g)(hc:n<=cap)(hm:cap<=maxLen):W.ownsRow base 54 4 (.slice (some ⟨g,0,none⟩) n cap) n (d.toList.flatMap dtE.enc):=by
 obtain⟨hr,⟨cur,hk,hs⟩,-,hz⟩:=h;have hlen:(d.toList.flatMap dtE.enc).length=n*4:=by rw[a0v a8a];simp[hz]
 refine⟨hlen,.inr ⟨g,cap,cur,rfl,hb,hk,hc,hm,hs,?_⟩⟩;refine List.ext_getElem? λt=> ?_
 by_cases ht:t<n*4
 ·rw[List.getElem?_take_of_lt ht,b3d d t (by rw[hz];exact ht)]
  exact yit
 ·exact yiz
theorem c6t (h:w.ownsRow base 54 4 (.slice (some ⟨g,0,none⟩) l.length cap) l.length (l.flatMap dtE.enc)):SoD w g 0 (cap*4) l.length l.toArray w/\base<=g:=by
 rcases h.2 with⟨e,-⟩|⟨g',cap',cur,e,hb,hg,h1,h2,h3,h4⟩
 ·cases e
 ·simp only[Value.slice.injEq,Option.some.injEq,Addr.mk.injEq,and_true,true_and]at e
  obtain⟨rfl,rfl⟩:=e;refine⟨⟨λt ht=>⟨?_,(show Blk w g cur 54 from hg).frozen _⟩,⟨cur,hg,h3⟩,⟨rfl,rfl,rfl,yR _,λ_ _ _=>rfl⟩,by simp⟩,hb⟩;have ht':t<l.length*4:=by simpa using ht
  have h5:=b3d l.toArray t (by simpa using ht');simp only at h5;have h6:=h.cellAt t ht';rw[h5]at h6;simpa using h6
theorem b9q {α:Type}[Inhabited α](enc:α->List Value)(k:Nat)(hk:∀x,(enc x).length=k)(d:Array α)(i:Nat)(hi:i<d.size)(x:α):
 setMany (flatK enc k d) (i*k) (enc x)=flatK enc k (d.setIfInBounds i x):=by
 refine ext_get! vM λt ht=> ?_
 have ht':t<d.size*k:=by simpa using ht
 have k0:0<k:=by
  rcases Nat.eq_zero_or_pos k with h|h
  ·subst h;simp at ht'
  ·exact h
 have hq:t / k<d.size:=(Nat.div_lt_iff_lt_mul k0).2 ht';rw[get_setMany _ _ _ t (by simpa using ht'),get_flatK _ _ _ t ht',get_flatK _ _ _ t (by simpa using ht'),hk];by_cases a:t / k=i
 ·rw[if_pos ((blk_iff k i t k0).2 a),show t-i*k=t % k from by subst a;rw[Nat.mod_eq_sub_div_mul],<-a,getElem!_set_same d (t / k) x hq]
 ·rw[if_neg (λh=>a ((blk_iff k i t k0).1 h))]
  have:(d.setIfInBounds i x)[t / k]! =d[t / k]! :=by
   rw[getElem!_pos _ (t / k) (by simpa using hq),getElem!_pos d (t / k) hq,Array.getElem_setIfInBounds,if_neg (λe=>a e.symm)]
  rw[this]
theorem SoD.store {d:Array Dt}(h:SoD w blk off N n d W)(hi:i<n)(x:Dt):SoD w blk off N n (d.setIfInBounds i x) (W.setCells blk (off+i*4) (dtE.enc x)):=by
 refine⟨?_,RowBD.setCells _ _ _ h.rb,a2e h.gr (a1u _ _ _ _),by simpa using h.sz⟩;have h1:=holds_setCells_c h.row (i*4) (dtE.enc x) (by rw[size_flatK,h.sz];show i*4+4<=n*4;omega);unfold RowD HoldsK;rw[<-b9q dtE.enc 4 (λ_=>rfl) d i (by rw[h.sz];exact hi) x];exact h1
structure DeD (q:Dt->Bool)(w:World)(blk N:Nat)(l:List Dt)(i j:Nat)(W:World):Prop where
 ex:∃d:Array Dt,SoD w blk 0 N l.length d W/\d.toList.take i=(l.take j).filter (λx=> !q x)/\d.toList.drop j=l.drop j
 ij:i<j
 jn:j<=l.length
theorem DeD.below {q:Dt->Bool}(h:DeD q w blk N l i j W)(hb:Below W.heap.size W W'):DeD q w blk N l i j W':=by
 obtain⟨⟨d,h1,h2,h3⟩,h4,h5⟩:=h;exact⟨⟨d,h1.below hb,h2,h3⟩,h4,h5⟩
theorem DeD.cell {q:Dt->Bool}(h:DeD q w blk N l i j W):(∀t,t<l.length*4->(W.cell? ⟨blk,t,none⟩).isSome=true)/\∀t,t<l.length*4->W.frozen? ⟨blk,t,none⟩=false:=by
 obtain⟨⟨d,h1,h2,h3⟩,h4,h5⟩:=h;have hh:=λt (ht:t<l.length*4)=>h1.row t (by rw[size_flatK,h1.sz];exact ht)
 simp only[Nat.zero_add]at hh;exact⟨λt ht=>by rw[(hh t ht).1];rfl,λt ht=>(hh t ht).2⟩
theorem DeD.lt {q:Dt->Bool}(h:DeD q w blk N l i j W):blk<W.heap.size:=by
 obtain⟨⟨d,h1,h2,h3⟩,h4,h5⟩:=h;exact h1.rb.lt
theorem DeD.skip {q:Dt->Bool}(h:DeD q w blk N l i j W)(hj:j<l.length){x:Dt}(hx:l[j]? =some x)(hn:q x=true):DeD q w blk N l i (j+1) W:=by
 obtain⟨⟨d,h1,h2,h3⟩,h4,h5⟩:=h;refine⟨⟨d,h1,?_,?_⟩,oM,hj⟩
 ·rw[h2,List.take_add_one,hx,List.filter_append]
  simp[hn]
 ·have:=congrArg (λl=>l.drop 1) h3
  simpa[List.drop_drop,Nat.add_comm]using this
theorem DeD.keep {q:Dt->Bool}(h:DeD q w blk N l i j W)(hj:j<l.length){x:Dt}(hx:l[j]? =some x)(hn:q x=false):DeD q w blk N l (i+1) (j+1) (W.setCells blk (0+i*4) (dtE.enc x)):=by
 obtain⟨⟨d,h1,h2,h3⟩,h4,h5⟩:=h;have hid:i<d.size:=by rw[h1.sz];omega
 refine⟨⟨d.setIfInBounds i x,h1.store oM x,?_,?_⟩,oM,hj⟩
 ·have e1:(d.setIfInBounds i x).toList=d.toList.set i x:=by simp
  rw[e1,List.take_set,List.take_add_one,List.getElem?_eq_getElem (by simpa using hid)];have hl:(d.toList.take i).length=i:=by simp;omega
  rw[List.set_append_right _ _ oM,hl,Nat.sub_self];simp only[Option.toList_some,List.set_cons_zero];rw[h2,List.take_add_one (l:=l),hx,List.filter_append];simp[hn]
 ·have e1:(d.setIfInBounds i x).toList=d.toList.set i x:=by simp
  rw[e1,List.drop_set_of_lt oM];have:=congrArg (λl=>l.drop 1) h3;simpa[List.drop_drop,Nat.add_comm]using this
theorem DeD.done {q:Dt->Bool}(h:DeD q w g (cap*4) l i l.length W)(hb:base<=g)(hc:l.length<=cap)(hm:cap<=maxLen)(vs:List Value)(hv:vs.length=(l.length-i)*4):
 i=(l.filter (λx=> !q x)).length/\(W.setCells g (0+i*4) vs).ownsRow base 54 4 (.slice (some ⟨g,0,none⟩) i cap) (l.filter (λx=> !q x)).length ((l.filter (λx=> !q x)).flatMap dtE.enc)/\w.grownBy (W.setCells g (0+i*4) vs) (some g):=by
 obtain⟨⟨d,h1,h2,h3⟩,h4,h5⟩:=h;rw[List.take_length]at h2;have hi:i=(l.filter (λx=> !q x)).length:=by
  rw[<-h2];have:=h1.sz;simp;omega
 refine⟨hi,?_,a2e h1.gr (a1u _ _ _ _)⟩;have hrow:=c6s h1 hb hc hm;obtain⟨cur,hk,hs⟩:=RowBD.setCells vs (0+i*4) W h1.rb;refine⟨a0v a8a _,.inr ⟨g,cap,cur,by rw[<-hi],hb,hk,oM,hm,hs,?_⟩⟩;refine List.ext_getElem? λt=> ?_
 have hf:=a0v a8a (l.filter (λx=> !q x));rw[show dtE.s=4 from rfl]at hf;by_cases ht:t<(l.filter (λx=> !q x)).length*4
 ·rw[List.getElem?_take_of_lt ht]
  have c1:=hk.cell t;rw[World.cell?_setCells_out g vs (0+i*4) W ⟨g,t,none⟩ (λ_ _=> .inl (by show t<0+i*4;omega))]at c1;have c2:=(h1.row t (by rw[size_flatK,h1.sz];omega)).1;rw[Nat.zero_add,c1]at c2;have c3:=b3d d t (by rw[h1.sz];omega);have c4:(d.toList.flatMap dtE.enc)[t]? =((l.filter (λx=> !q x)).flatMap dtE.enc)[t]? :=by
   rw[<-h2,show d.toList.flatMap dtE.enc=(d.toList.take i).flatMap dtE.enc++(d.toList.drop i).flatMap dtE.enc from by rw[<-List.flatMap_append,List.take_append_drop]];refine List.getElem?_append_left ?_;rw[h2,hf];exact ht
  rw[<-c4,c3];simpa using c2
 ·exact yiz
end
section
open Go Go.RowKit Go.Shelf Go.Lib Go.Sort
attribute [local go_sem] Oper.semAt_some
attribute [local go_sem ↓] Go.wp_at_zero Go.wp_at_succ
variable{l:List Dt}{N blk i j:Nat}{W w:World}
theorem b9r (w:World)(b o n c:Nat)(ty:TypeId)(hn:0<n)(hc:∀j,j<n*4->(w.cell? ⟨b,o+j,none⟩).isSome=true)(hf:∀j,j<n*4->w.frozen? ⟨b,o+j,none⟩=false):
 ∃vs,vs.length=n*4/\(Builtin.clear_ #[41] ty #[.slice (some ⟨b,o,none⟩) n c]).run prog w= .ok (.tuple #[]) (w.setCells b o vs):=by
 obtain⟨zs,hzs⟩:=zE ((Builtin.zeroCells (Value.agg #[.int .i64 0,.int .i64 0,.int .i64 0,.int .i64 0]).cells n).toList);have hlen:zs.length=n*4:=by rw[<-hzs,Array.length_toList,size_zeroCells];rfl
 have h1:∀v∈zs,v.oneCell'=true:=by
  intro v hv;rw[<-hzs]at hv;simp only[Builtin.zeroCells,Array.toList_map,List.mem_map]at hv;obtain⟨i,-,rfl⟩:=hv;have:i % 4<4:=Nat.mod_lt _ jM;show Value.oneCell' ((#[Value.int .i64 0,.int .i64 0,.int .i64 0,.int .i64 0]:Array Value)[i % 4]!)=true;obtain⟨k,hk⟩:=zE (i % 4);rw[hk]at this ⊢;match k,this with
  |0,_=>rfl
  |1,_=>rfl
  |2,_=>rfl
  |3,_=>rfl
 have hst:=run_storeCells_cells (P:=prog) b o zs 0 w (by simpa[hlen]using hc) (by simpa[hlen]using hf) h1;simp only[Nat.add_zero]at hst;obtain⟨m,rfl⟩:∃m,n=m+1:=⟨n-1,oM⟩;refine⟨zs,hlen,?_⟩;have hu:=run_underlying (P:=prog) underlying41;simp only[Builtin.clear_];simp[hu,zeroValue54,hzs,hst]
theorem c6u (W:World)(blk o:Nat)(x y k i:Int):W.setCells blk o (dtE.enc ⟨x,y,k,i⟩)=((((W.setCell ⟨blk,o,none⟩ (.int .i64 x)).setCell ⟨blk,o+1,none⟩ (.int .i64 y)).setCell ⟨blk,o+2,none⟩ (.int .i64 k)).setCell ⟨blk,o+3,none⟩ (.int .i64 i)):=by
 simp only[World.setCells,Nat.add_assoc,Nat.reduceAdd]
theorem DeD.at_ {q:Dt->Bool}(h:DeD q w blk N l i j W)(hj:j<l.length){x:Dt}(hx:l[j]? =some x):W.cell? ⟨blk,0+j*4,none⟩=some (.int .i64 x.x)/\W.cell? ⟨blk,0+j*4+1,none⟩=some (.int .i64 x.y)/\W.cell? ⟨blk,0+j*4+2,none⟩=some (.int .i64 x.k)/\W.cell? ⟨blk,0+j*4+3,none⟩=some (.int .i64 x.i):=by
 obtain⟨⟨d,h1,h2,h3⟩,h4,h5⟩:=h;have h6:d.toList[j]? =l[j]? :=by
  have:=congrArg (λl=>l[0]?) h3;simpa using this
 rw[hx]at h6;have hjd:j<d.size:=by rw[h1.sz];exact hj
 have h8:d[j]! =x:=by
  rw[getElem!_pos d j hjd];simpa[hjd]using h6
 subst h8;exact⟨(HoldsK.cell h1.row hjd (c:=0) oM).1,(HoldsK.cell h1.row hjd (c:=1) oM).1,(HoldsK.cell h1.row hjd (c:=2) oM).1,(HoldsK.cell h1.row hjd (c:=3) oM).1⟩
theorem DeD.fr {q:Dt->Bool}(h:DeD q w blk N l i j W){k:Nat}(hk:k<l.length):W.frozen? ⟨blk,0+k*4,none⟩=false/\W.frozen? ⟨blk,0+k*4+1,none⟩=false/\W.frozen? ⟨blk,0+k*4+2,none⟩=false/\W.frozen? ⟨blk,0+k*4+3,none⟩=false:=by
 obtain⟨⟨d,h1,h2,h3⟩,h4,h5⟩:=h;have hjd:k<d.size:=by rw[h1.sz];exact hk
 exact⟨(HoldsK.cell h1.row hjd (c:=0) oM).2,(HoldsK.cell h1.row hjd (c:=1) oM).2,(HoldsK.cell h1.row hjd (c:=2) oM).2,(HoldsK.cell h1.row hjd (c:=3) oM).2⟩
theorem d0d (q:Dt->Bool)(l:List Dt):(l.findIdx? q=none/\l.filter (λx=> !q x)=l)\/∃i:Nat,l.findIdx? q=some i/\i<l.length/\(l.take (i+1)).filter (λx=> !q x)=l.take i:=by
 cases h:l.findIdx? q with
 |none =>
  left;rw[List.findIdx?_eq_none_iff]at h;exact⟨rfl,List.filter_eq_self.2 λx hx=>by simp[h x hx]⟩
 |some i =>
  right;obtain⟨hi,h1,h2⟩:=List.findIdx?_eq_some_iff_getElem.1 h;refine⟨i,rfl,hi,?_⟩;rw[List.take_add_one,List.getElem?_eq_getElem hi,List.filter_append];have e1:(l.take i).filter (λx=> !q x)=l.take i:=List.filter_eq_self.2 λx hx=>by
   obtain⟨j,hj⟩:=List.mem_iff_getElem?.1 hx;rw[List.getElem?_take]at hj;split at hj
   ·obtain⟨hjl,rfl⟩:=List.getElem?_eq_some_iff.1 hj
    simp[h2 j gM]
   ·cases hj
  rw[e1];simp[h1]
end
end Go.Proofs.YtfocdbjceedagaaGreatDoor
