/-
  Parts.
-/
import Derived.Test.YtfocdbjceedagaaGreatDoorYan
set_option linter.unusedVariables false
set_option linter.unusedSimpArgs false
set_option maxHeartbeats 1000000
set_option maxRecDepth 100000
namespace Go.Proofs.YtfocdbjceedagaaGreatDoor
open Tryz
section
open Go.RowKit Go.Shelf
structure CT where
 k:Nat
 e:TypeId
abbrev CT.int:CT:=⟨0,0⟩
abbrev CT.str:CT:=⟨1,0⟩
abbrev CT.bool:CT:=⟨2,0⟩
abbrev CT.sl (e:TypeId):CT:=⟨3,e⟩
abbrev CT.any:CT:=⟨4,0⟩
def a2o (t:TypeId):List CT :=
 if t=3 then [.int]
 else if t=26 then [.int,.int]
 else if t=245 then [.int,.int,.int]
 else if t=206 then [.int,.sl 26,.int,.int]
 else if t=249 then [.int,.sl 245,.int,.int]
 else if t=140 then [.int,.str,.str,.int,.int]
 else if t=149 then [.int,.sl 26,.int,.str,.str,.bool,.int,.int]
 else if t=66 then [.int,.int,.int,.str,.any,.int,.int]
 else []
abbrev a6y (t:TypeId):Nat:=(a2o t).length
abbrev BS:=Nat→Prop
def SL (S:BS)(W:World)(e:TypeId)(v:Value)(n:Nat):Prop :=
 ∃a cap,v= .slice a n cap∧n≤cap∧((a=none∧cap=0)∨∃b o c,a=some ⟨b,o*a6y e,none⟩∧S b∧Blk W b c e∧(o+cap)*a6y e≤c.size)
structure CT.ok (S:BS)(W:World)(ct:CT)(v:Value):Prop where
 lt:ct.k<5
 i:ct.k=0→∃x,v= .int .i64 x∧a0i x
 s:ct.k=1→∃s:ByteArray,v= .string s∧s.size≤30
 b:ct.k=2→∃b,v= .bool b
 l:ct.k=3→∃n,n≤100∧SL S W ct.e v n
 a:ct.k=4→∃s:ByteArray,v= .string s
theorem CT.ok_int {S:BS}{W:World}{x:Int}(h:a0i x):CT.int.ok S W (.int .i64 x):=⟨by decide,fun _=>⟨x,rfl,h⟩,fun e=>absurd e (by decide),fun e=>absurd e (by decide),fun e=>absurd e (by decide),fun e=>absurd e (by decide)⟩
theorem CT.ok_str {S:BS}{W:World}{s:ByteArray}(h:s.size≤30):CT.str.ok S W (.string s):=⟨by decide,fun e=>absurd e (by decide),fun _=>⟨s,rfl,h⟩,fun e=>absurd e (by decide),fun e=>absurd e (by decide),fun e=>absurd e (by decide)⟩
theorem CT.ok_bool {S:BS}{W:World}(b:Bool):CT.bool.ok S W (.bool b):=⟨by decide,fun e=>absurd e (by decide),fun e=>absurd e (by decide),fun _=>⟨b,rfl⟩,fun e=>absurd e (by decide),fun e=>absurd e (by decide)⟩
theorem CT.ok_sl {S:BS}{W:World}{e:TypeId}{v:Value}{n:Nat}(h:SL S W e v n)(hn:n≤100):(CT.sl e).ok S W v:=⟨by show 3<5;decide,fun e=>absurd e (by show ¬3=0;decide),fun e=>absurd e (by show ¬3=1;decide),fun e=>absurd e (by show ¬3=2;decide),fun _=>⟨n,hn,h⟩,fun e=>absurd e (by show ¬3=4;decide)⟩
def TB (S:BS)(W:World)(e:TypeId)(c:Array Value):Prop:=∀(i:Nat)(u:Value)(ct:CT),c[i]? =some u→(a2o e)[i % a6y e]? =some ct→ct.ok S W u
def TW (S:BS)(W:World):Prop:=∀b,S b→∃c e,Blk W b c e∧TB S W e c
def Shp (S:BS)(W W':World):Prop:=∀b c e,S b→Blk W b c e→∃c',Blk W' b c' e∧c'.size=c.size
theorem Shp.refl (S:BS)(W:World):Shp S W W:=fun _ c _ _ h=>⟨c,h,rfl⟩
theorem Shp.trans {S S1:BS}{W W1 W2:World}(h1:Shp S W W1)(h2:Shp S1 W1 W2)(hs:∀b,S b→S1 b):Shp S W W2:=fun b c e hb hc=>by
 obtain⟨c1,k1,s1⟩:=h1 b c e hb hc;obtain⟨c2,k2,s2⟩:=h2 b c1 e (hs b hb) k1;exact⟨c2,k2,s2.trans s1⟩
theorem SL.mono {S S':BS}{W W':World}{e:TypeId}{v:Value}{n:Nat}(h:SL S W e v n)(hs:∀b,S b→S' b)(hsh:Shp S W W'):SL S' W' e v n:=by
 obtain⟨a,cap,rfl,hn,h|⟨b,o,c,rfl,hb,hc,hl⟩⟩:=h
 ·exact⟨a,cap,rfl,hn,.inl h⟩
 ·obtain⟨c',hc',hz⟩:=hsh b c e hb hc
  exact⟨_,cap,rfl,hn,.inr ⟨b,o,c',rfl,hs b hb,hc',by omega⟩⟩
theorem CT.ok.mono {S S':BS}{W W':World}{ct:CT}{v:Value}(h:ct.ok S W v)(hs:∀b,S b→S' b)(hsh:Shp S W W'):ct.ok S' W' v :=
 ⟨h.lt,h.i,h.s,h.b,fun e=>by obtain⟨n,hn,h⟩:=h.l e;exact⟨n,hn,h.mono hs hsh⟩,h.a⟩
theorem TB.mono {S S':BS}{W W':World}{e:TypeId}{c:Array Value}(h:TB S W e c)(hs:∀b,S b→S' b)(hsh:Shp S W W'):TB S' W' e c:=fun i u ct h1 h2=>(h i u ct h1 h2).mono hs hsh
structure Ev (X:BS)(S:BS)(W:World)(S':BS)(W':World):Prop where
 sub:∀b,S b→S' b
 new:∀b,S' b→S b∨W.heap.size≤b
 os:W'.os=W.os
 tape:W'.tape=W.tape
 output:W'.output=W.output
 size:W.heap.size≤W'.heap.size
 rest:∀b,b<W.heap.size→¬S b→¬X b→W'.heap[b]? =W.heap[b]?
 shape:Shp S W W'
 ok:TW S' W'
theorem TW.lt {S:BS}{W:World}(h:TW S W){b:Nat}(hb:S b):b<W.heap.size:=by
 obtain⟨c,e,hc,-⟩:=h b hb;exact hc.lt
theorem Ev.refl {X S:BS}{W:World}(h:TW S W):Ev X S W S W:=⟨fun _ h=>h,fun _ h=> .inl h,rfl,rfl,rfl,yR _,fun _ _ _ _=>rfl,Shp.refl _ _,h⟩
theorem Ev.trans {X S S1 S2:BS}{W W1 W2:World}(h1:Ev X S W S1 W1)(h2:Ev X S1 W1 S2 W2):Ev X S W S2 W2 :=
 ⟨fun b h=>h2.sub b (h1.sub b h),fun b h=>by
  rcases h2.new b h with h|h
  ·exact h1.new b h
  ·exact .inr (Nat.le_trans h1.size h),h2.os.trans h1.os,h2.tape.trans h1.tape,h2.output.trans h1.output,Nat.le_trans h1.size h2.size,fun b hb hn hx=>by
  have hn1:¬S1 b:=fun h=>by
   rcases h1.new b h with h|h
   ·exact hn h
   ·omega
  exact (h2.rest b (Nat.lt_of_lt_of_le hb h1.size) hn1 hx).trans (h1.rest b hb hn hx),h1.shape.trans h2.shape h1.sub,h2.ok⟩
theorem Ev.below {X S S':BS}{W W':World}(h:Ev X S W S' W'){n:Nat}(hS:∀b,S b→n≤b)(hX:∀b,X b→n≤b)(hn:n≤W.heap.size):Below n W W' :=
 ⟨h.os,h.tape,h.output,h.size,fun b hb=>h.rest b (by omega) (fun hs=>by have:=hS b hs;omega) (fun hs=>by have:=hX b hs;omega)⟩
theorem Ev.sl {X S S':BS}{W W':World}(h:Ev X S W S' W'){e:TypeId}{v:Value}{n:Nat}(hs:SL S W e v n):SL S' W' e v n:=hs.mono h.sub h.shape
theorem Ev.ct {X S S':BS}{W W':World}(h:Ev X S W S' W'){ct:CT}{v:Value}(hs:ct.ok S W v):ct.ok S' W' v:=hs.mono h.sub h.shape
theorem Ev.blk {X S S':BS}{W W':World}(h:Ev X S W S' W'){b:Nat}{c:Array Value}{t:TypeId}(hb:Blk W b c t)(hn:¬S b)(hx:¬X b):Blk W' b c t:=(h.rest b hb.lt hn hx).trans hb
theorem Ev.not {X S S':BS}{W W':World}(h:Ev X S W S' W'){b:Nat}(hb:b<W.heap.size)(hn:¬S b):¬S' b:=fun hs=>by
 rcases h.new b hs with h|h
 ·exact hn h
 ·omega
theorem Ev.of_grown {X S:BS}{W W':World}{row:Option Nat}(hT:TW S W)(hg:W.grownBy W' row)(hr:∀r,row=some r→¬S r∧X r):Ev X S W S W':=by
 have hsame:∀b,S b→W'.heap[b]? =W.heap[b]? :=fun b hb=>hg.block b (hT.lt hb) (fun e=>(hr b e.symm).1 hb)
 have hsh:Shp S W W':=fun b c e hb hc=>⟨c,(hsame b hb).trans hc,rfl⟩
 refine⟨fun _ h=>h,fun _ h=> .inl h,hg.os,hg.tape,hg.output,hg.size,fun b hb _ hx=>hg.block b hb (fun e=>hx (hr b e.symm).2),hsh,fun b hb=> ?_⟩;obtain⟨c,e,hc,ht⟩:=hT b hb;exact⟨c,e,(hsame b hb).trans hc,ht.mono (fun _ h=>h) hsh⟩
theorem Ev.of_below {X S:BS}{W W':World}(hT:TW S W)(h:Below W.heap.size W W'):Ev X S W S W':=Ev.of_grown hT (a1o h) (fun r e=>by cases e)
theorem Ev.drew {X S:BS}{W:World}(hT:TW S W):Ev X S W S W.drew:=Ev.of_grown hT (b8y W) (fun r e=>by cases e)
theorem TW.of_same {S:BS}{W W':World}(hT:TW S W)(h:∀b,S b→W'.heap[b]? =W.heap[b]?):TW S W':=by
 have hsh:Shp S W W':=fun b c e hb hc=>⟨c,(h b hb).trans hc,rfl⟩
 intro b hb;obtain⟨c,e,hc,ht⟩:=hT b hb;exact⟨c,e,(h b hb).trans hc,ht.mono (fun _ h=>h) hsh⟩
theorem TW.none (W:World):TW (fun _=>False) W:=fun _ h=>h.elim
theorem Ev.alloc {X S:BS}{W:World}(hT:TW S W){c:Array Value}{e:TypeId}(hc:TB S W e c):Ev X S W (fun b=>S b∨b=W.heap.size) (W.alloc (.cells c e)):=by
 have hsh:Shp S W (W.alloc (.cells c e)):=fun b c' e' hb hc'=>⟨c',hc'.alloc _,rfl⟩
 refine⟨fun _ h=> .inl h,fun b h=>by rcases h with h|rfl;exact .inl h;exact .inr (yR _),rfl,rfl,rfl,by simp,fun b hb _ _=>(World.grownBy_alloc W _ none).block b hb (by simp),hsh,fun b hb=> ?_⟩;rcases hb with hb|rfl
 ·obtain⟨c',e',hc',ht⟩:=hT b hb
  exact⟨c',e',hc'.alloc _,ht.mono (fun _ h=> .inl h) hsh⟩
 ·exact⟨c,e,Blk.new W c e,hc.mono (fun _ h=> .inl h) hsh⟩
theorem Ev.set {X S:BS}{W:World}(hT:TW S W){b:Nat}{c:Array Value}{e:TypeId}(hb:S b)(hc:Blk W b c e)(i:Nat)(v:Value)(hv:∀ct,(a2o e)[i % a6y e]? =some ct→ct.ok S W v):Ev X S W S (W.setCell ⟨b,i,none⟩ v):=by
 have hsh:Shp S W (W.setCell ⟨b,i,none⟩ v):=fun b' c' e' hb' hc'=>by
  by_cases h:b'=b
  ·subst h
   obtain⟨rfl,rfl⟩:c'=c∧e'=e:=by
    unfold Blk at hc hc';rw[hc] at hc'
    cases hc';exact⟨rfl,rfl⟩
   exact⟨_,hc'.set i v,by simp⟩
  ·exact⟨c',hc'.other h i v,rfl⟩
 refine⟨fun _ h=>h,fun _ h=> .inl h,rfl,rfl,rfl,by simp,fun b' _ hn _=>Below.heap_setCell _ _ _ _ (fun e=>hn (by simp at e;exact e▸hb)),hsh,fun b' hb'=> ?_⟩;by_cases h:b'=b
 ·subst h
  obtain⟨c0,e0,hc0,ht⟩:=hT b' hb';obtain⟨rfl,rfl⟩:c0=c∧e0=e:=by
   unfold Blk at hc hc0;rw[hc] at hc0
   cases hc0;exact⟨rfl,rfl⟩
  refine⟨_,e0,hc0.set i v,fun j u ct h1 h2=> ?_⟩;rw[Array.getElem?_setIfInBounds] at h1;split at h1
  ·rename_i hij
   subst hij;split at h1
   ·cases h1
    exact (hv ct h2).mono (fun _ h=>h) hsh
   ·cases h1
  ·exact (ht j u ct h1 h2).mono (fun _ h=>h) hsh
 ·obtain⟨c0,e0,hc0,ht⟩:=hT b' hb'
  exact⟨c0,e0,hc0.other h i v,ht.mono (fun _ h=>h) hsh⟩
theorem Ev.setCells {X S:BS}{b:Nat}{e:TypeId}(hb:S b):∀(vs:List Value)(o:Nat)(W:World)(c:Array Value),TW S W→Blk W b c e→(∀j u ct,vs[j]? =some u→(a2o e)[(o+j) % a6y e]? =some ct→ct.ok S W u)→Ev X S W S (W.setCells b o vs)
 |[],o,W,c,hT,hc,hv=>Ev.refl hT
 |v::r,o,W,c,hT,hc,hv=>by
  have h1:=Ev.set (X:=X) hT hb hc o v (fun ct h=>hv 0 v ct rfl (by simpa using h));exact h1.trans (Ev.setCells hb r (o+1) _ _ h1.ok (hc.set o v) (fun j u ct h2 h3=>h1.ct (hv (j+1) u ct (by simpa using h2) (by rw[show o+(j+1)=o+1+j from by omega];exact h3))))
structure ET (e:TypeId)(s:Nat):Prop where
 size:a6y e=s
 pos:0<s
 info:∃i z,prog.info? e=some i∧i.zero=some z∧i.size=s∧i.bytes≤1000∧z.cells.size=s∧∀S W (j:Nat) u ct,z.cells[j]? =some u→(a2o e)[j]? =some ct→CT.ok S W ct u
theorem CT.ok.one {S:BS}{W:World}{ct:CT}{u:Value}(h:ct.ok S W u):u.oneCell'=true:=by
 have hk:=h.lt;rcases (show ct.k=0∨ct.k=1∨ct.k=2∨ct.k=3∨ct.k=4 from by omega) with e|e|e|e|e
 ·obtain⟨x,rfl,-⟩:=h.i e;rfl
 ·obtain⟨x,rfl,-⟩:=h.s e;rfl
 ·obtain⟨x,rfl⟩:=h.b e;rfl
 ·obtain⟨n,-,a,cap,rfl,-⟩:=h.l e;rfl
 ·obtain⟨x,rfl⟩:=h.a e;rfl
theorem SL.cells {S:BS}{W:World}{e:TypeId}{v:Value}{n s:Nat}(hT:TW S W)(he:ET e s)(h:SL S W e v n):∃(a:Option Addr)(cap:Nat)(news:List Value),v= .slice a n cap∧n≤cap∧news.length=n*s∧(∀j u,news[j]? =some u→∃ad,a=some ad∧W.cell? (ad.add j)=some u)∧(∀j u ct,news[j]? =some u→(a2o e)[j % s]? =some ct→ct.ok S W u)∧(∀u∈news,u.oneCell'=true)∧(a=none→n=0):=by
 have hs:=he.size;have hp:=he.pos;obtain⟨a,cap,rfl,hn,⟨rfl,rfl⟩|⟨b,o,c,rfl,hb,hc,hl⟩⟩:=h
 ·obtain rfl:n=0:=by omega
  exact⟨none,0,[],rfl,yR _,by simp,by simp,by simp,by simp,fun _=>rfl⟩
 ·rw[hs] at hl ⊢
  obtain⟨c0,e0,hc0,ht⟩:=hT b hb;obtain⟨rfl,rfl⟩:c0=c∧e0=e:=by
   unfold Blk at hc hc0;rw[hc] at hc0
   cases hc0;exact⟨rfl,rfl⟩
  have hle:(o+n)*s≤c0.size:=Nat.le_trans (Nat.mul_le_mul_right s (by omega)) hl;rw[Nat.add_mul] at hle;have hget:∀j u,((c0.toList.drop (o*s)).take (n*s))[j]? =some u→c0[o*s+j]? =some u:=fun j u h=>by
   rw[List.getElem?_take] at h;split at h
   ·rw[List.getElem?_drop] at h
    simpa using h
   ·cases h
  have hty:∀j u ct,((c0.toList.drop (o*s)).take (n*s))[j]? =some u→(a2o e0)[j % s]? =some ct→ct.ok S W u:=fun j u ct h1 h2 =>
   ht (o*s+j) u ct (hget j u h1) (by rw[hs,Nat.mul_comm,Nat.mul_add_mod];exact h2)
  refine⟨_,cap,(c0.toList.drop (o*s)).take (n*s),rfl,hn,by simp;omega,fun j u hj=>⟨_,rfl,?_⟩,hty,fun u hu=> ?_,fun h=>by cases h⟩
  ·rw[Go.WideShapes.add_plain]
   exact (hc.cell _).trans (hget j u hj)
  ·obtain⟨j,hj,rfl⟩:=List.getElem_of_mem hu
   have hm:j % s<(a2o e0).length:=by rw[show (a2o e0).length=s from hs];exact Nat.mod_lt _ hp
   exact (hty j _ _ (List.getElem?_eq_getElem hj) (List.getElem?_eq_getElem hm)).one
theorem c5g {X S:BS}{W:World}(hT:TW S W){t e ty:TypeId}{s:Nat}(ht:prog.underlying t=some (.slice e))(he:ET e s){sv xv:Value}{n m:Nat}(hv:SL S W e sv n)(hx:SL S W e xv m)(hl:n+m≤1000000) :
 ∃v' S' W',(Builtin.append_ #[t,t] ty #[sv,xv]).run prog W= .ok v' W'∧SL S' W' e v' (n+m)∧Ev X S W S' W':=by
 obtain⟨i,z,hi,hz,hsz,hby,hzs,hzt⟩:=he.info;have hp:=he.pos;have hss:=he.size;obtain⟨xa,xc,news,rfl,hxn,hnl,hnc,hnt,hn1,hx0⟩:=hx.cells hT he;have hsrc:Src prog i.size t (.slice xa m xc) m news W:=by
  cases xa with
  |none =>
   obtain rfl:=hx0 rfl;obtain rfl:news=[]:=List.eq_nil_of_length_eq_zero (by simpa using hnl);exact Src.ofNil W ht xc
  |some ad=>exact Src.ofSlice W ht ad m xc news (by rw[hsz];exact hnl) (fun j u hj=>by obtain⟨ad',h,hc⟩:=hnc j u hj;cases h;exact hc) hn1
 have hv':=hv;obtain⟨a,cap,olds,rfl,hnc',hol,hoc,hot,ho1,ha0⟩:=hv.cells hT he;by_cases hroom:n+m≤cap
 ·obtain⟨a2,cap2,h2,-,h3⟩:=hv'
  cases h2;rcases h3 with ⟨rfl,rfl⟩|⟨b,o,c,rfl,hb,hc,hcl⟩
  ·obtain rfl:n=0:=by omega
   obtain rfl:m=0:=by omega
   refine⟨.slice none 0 0,S,W,?_,⟨none,0,rfl,yR _,.inl ⟨rfl,rfl⟩⟩,Ev.refl hT⟩;simp[Builtin.append_,run_underlying ht,sizeOf,typeInfo,hi,hsrc.len,hsrc.cells]
  ·rw[hss] at hcl ⊢
   have hmul:(n+m)*s≤cap*s:=Nat.mul_le_mul_right s hroom;rw[Nat.add_mul] at hmul hcl;have hcell:∀j,j<news.length→(W.cell? ⟨b,o*s+n*i.size+j,none⟩).isSome=true:=fun j hj=>by
    rw[hc.cell,hsz,Array.getElem?_eq_getElem (by omega)];rfl
   have hr:=run_append_room_src (P:=prog) W t t ty e i ht hi b (o*s) n cap (.slice xa m xc) m news hsrc hroom hcell (fun j hj=>hc.frozen _);refine⟨_,S,_,hr,?_,?_⟩
   ·have hE:=Ev.setCells (X:=X) hb news (o*s+n*i.size) W c hT hc (fun j u ct h1 h2=>hnt j u ct h1 (by
     rw[hss,hsz,←Nat.add_mul,Nat.mul_comm,Nat.mul_add_mod] at h2;exact h2))
    exact hE.sl ⟨_,cap,rfl,hroom,.inr ⟨b,o,c,by rw[hss],hb,hc,by rw[hss,Nat.add_mul];omega⟩⟩
   ·exact Ev.setCells hb news (o*s+n*i.size) W c hT hc (fun j u ct h1 h2=>hnt j u ct h1 (by
     rw[hss,hsz,←Nat.add_mul,Nat.mul_comm,Nat.mul_add_mod] at h2;exact h2))
 ·have hold:(Builtin.firstCells i.size n (.slice a n cap)).run prog W.drew= .ok olds.toArray W.drew:=by
   cases a with
   |none =>
    obtain rfl:=ha0 rfl;obtain rfl:olds=[]:=List.eq_nil_of_length_eq_zero (by simpa using hol);exact run_firstCells_none W.drew _ _ _ _
   |some ad=>exact run_firstCells_some W.drew i.size n ad n cap olds (by rw[hsz];exact hol) (fun j u hj=>by obtain⟨ad',h,hc⟩:=hoc j u hj;cases h;simpa using hc)
  have hge:=grownCap_ge W (n+m) cap e;have hcap:Builtin.nextslicecap (n+m) cap*i.bytes≤281474976710656:=growslice_fits (by omega) (Nat.le_trans (Nat.mul_le_mul hl hby) (by decide));have hr:=run_append_grow_src (P:=prog) W t t ty e i z ht hi hz a n cap olds hold (.slice xa m xc) m news hsrc (by omega) (by omega) hcap;have hTd:=(Ev.drew (X:=X) hT).ok;have hdr:=Ev.drew (X:=X) hT;have hB:TB S W.drew e ((olds++news).toArray++Builtin.zeroCells z.cells (grownCap W (n+m) cap e-(n+m))):=by
   intro j u ct h1 h2;rw[hss] at h2;rw[Array.getElem?_append] at h1;split at h1
   ·rw[List.getElem?_toArray,List.getElem?_append] at h1
    split at h1
    ·exact hdr.ct (hot j u ct h1 h2)
    ·rename_i h3 h4
     refine hdr.ct (hnt _ u ct h1 ?_);rw[hol] at h4 ⊢;have:(j-n*s) % s=j % s:=by
      conv=>rhs;rw[show j=(j-n*s)+s*n from by rw[Nat.mul_comm s n];omega]
      rw[Nat.add_mul_mod_self_left]
     rw[this];exact h2
   ·rename_i h3
    simp only[List.size_toArray,List.length_append,hol,hnl,←Nat.add_mul] at h1 h3;unfold Builtin.zeroCells at h1;rw[Array.getElem?_map] at h1;obtain⟨k,hk,rfl⟩:=Option.map_eq_some_iff.1 h1;obtain⟨hk1,hk2⟩:=Array.getElem?_eq_some_iff.1 hk;simp only[Array.getElem_range] at hk2;have hm:(j-(n+m)*s) % s=j % s:=by
     conv=>rhs;rw[show j=(j-(n+m)*s)+s*(n+m) from by rw[Nat.mul_comm s];omega]
     rw[Nat.add_mul_mod_self_left]
    rw[←hk2,hzs,hm];have hlt:j % s<z.cells.size:=by rw[hzs];exact Nat.mod_lt _ hp
    refine hzt S _ (j % s) _ ct ?_ h2;rw[getElem!_pos z.cells (j % s) hlt,Array.getElem?_eq_getElem hlt]
  have hA:=Ev.alloc (X:=X) hTd hB;refine⟨_,_,_,hr,?_,hdr.trans hA⟩;refine⟨_,_,rfl,hge,.inr ⟨W.heap.size,0,_,by rw[Nat.zero_mul],.inr rfl,Blk.new W.drew _ _,?_⟩⟩;rw[hss,Nat.zero_add];simp only[Array.size_append,List.size_toArray,List.length_append,hol,hnl,size_zeroCells,hzs,←Nat.add_mul];exact Nat.mul_le_mul_right s (by omega)
theorem a9g {X S:BS}{w:World}(hT:TW S w){o:Oper}{a:Act}{K:Act→World→Prop}{Q:Exit→Act→World→Prop}(sO xO:Operand)(t:TypeId)(ho:o.op= .call { callee:= .builtin .append,args:= #[sO,xO],argTypes:= #[t,t] })
 {e:TypeId} {s:Nat} (ht:prog.underlying t=some (.slice e)) (he:ET e s) {sv xv:Value} {n m:Nat} (hsv:a.eval sO=sv) (hv:SL S w e sv n) (hxv:a.eval xO=xv) (hx:SL S w e xv m) (hl:n+m≤1000000)
 (h:∀v' S' w',SL S' w' e v' (n+m)→Ev X S w S' w'→K (a.put o.dst v') w'):Oper.wp prog o a w K Q:=by
 obtain⟨v',S',w',hr,h2,h3⟩:=c5g (X:=X) hT (ty:=o.type) ht he hv hx hl;unfold Oper.wp execOp;simp only[ho,resolve,invoke,builtin,Sem.run_bind,Sem.run_pure,Result.andThen_ok,List.map_toArray,List.map_cons,List.map_nil,hsv,hxv,hr];exact h v' S' w' h2 h3
theorem a1b {X S:BS}{w:World}(hT:TW S w){ops:Array Oper}{rest:List Oper}{o:Oper}{a:Act}{Q:Exit→Act→World→Prop}(hgd:o.guard=none)(sO xO:Operand)(t:TypeId)(ho:o.op= .call { callee:= .builtin .append,args:= #[sO,xO],argTypes:= #[t,t] })
 {e:TypeId} {s:Nat} (ht:prog.underlying t=some (.slice e)) (he:ET e s) {sv xv:Value} {n m:Nat} (hsv:a.eval sO=sv) (hv:SL S w e sv n) (hxv:a.eval xO=xv) (hx:SL S w e xv m) (hl:n+m≤1000000)
 (h:∀v' S' w',SL S' w' e v' (n+m)→Ev X S w S' w'→wpList prog ops Q rest (a.put o.dst v') w'):wpList prog ops Q (o::rest) a w :=
 wpList_plain hgd fun _ hK=>a9g hT sO xO t ho ht he hsv hv hxv hx hl fun v' S' w' h2 h3=>hK _ _ (h v' S' w' h2 h3)
end
section
open Go.RowKit Go.Shelf
attribute [local go_sem] Oper.semAt_some
def zOk (ct:CT)(u:Value):Bool :=
 match u with
 |.int .i64 n=>ct.k==0&&n==0
 |.string s=>(ct.k==1||ct.k==4)&&s.size==0
 |.bool _=>ct.k==2
 |.slice none 0 0=>ct.k==3
 |_=>false
theorem d2e {ct:CT}{u:Value}(h:zOk ct u=true)(S:BS)(W:World):ct.ok S W u:=by
 obtain⟨k,e⟩:=ct;unfold zOk at h;split at h
 ·simp only[Bool.and_eq_true,beq_iff_eq] at h
  obtain⟨rfl,rfl⟩:=h;exact⟨by simp,fun _=>⟨0,rfl,⟨by decide,by decide⟩⟩,fun e=>by simp at e,fun e=>by simp at e,fun e=>by simp at e,fun e=>by simp at e⟩
 ·rename_i s
  simp only[Bool.and_eq_true,Bool.or_eq_true,beq_iff_eq] at h;obtain⟨rfl|rfl,h⟩:=h
  ·exact⟨by simp,fun e=>by simp at e,fun _=>⟨s,rfl,by omega⟩,fun e=>by simp at e,fun e=>by simp at e,fun e=>by simp at e⟩
  ·exact⟨by simp,fun e=>by simp at e,fun e=>by simp at e,fun e=>by simp at e,fun e=>by simp at e,fun _=>⟨s,rfl⟩⟩
 ·rename_i b
  simp only[beq_iff_eq] at h;subst h;exact⟨by simp,fun e=>by simp at e,fun e=>by simp at e,fun _=>⟨b,rfl⟩,fun e=>by simp at e,fun e=>by simp at e⟩
 ·simp only[beq_iff_eq] at h
  subst h;exact⟨by simp,fun e=>by simp at e,fun e=>by simp at e,fun e=>by simp at e,fun _=>⟨0,by omega,none,0,rfl,yR _,.inl ⟨rfl,rfl⟩⟩,fun e=>by simp at e⟩
 ·cases h
def d4m (e:TypeId)(z:Value):Bool:=(List.range (a6y e)).all fun j=>match z.cells[j]?,(a2o e)[j]? with|some u,some ct=>zOk ct u|_,_=>false
theorem d0u {e:TypeId}{z:Value}(h:d4m e z=true)(S:BS)(W:World)(j:Nat)(u:Value)(ct:CT)(h1:z.cells[j]? =some u)(h2:(a2o e)[j]? =some ct):ct.ok S W u:=by
 have hj:j<a6y e:=(List.getElem?_eq_some_iff.1 h2).1;have h3:=List.all_eq_true.1 h j (List.mem_range.2 hj);rw[h1,h2] at h3;exact d2e h3 S W
theorem b9c {e:TypeId}{s bytes:Nat}{z:Value}(h:(prog.info? e).map (fun i=>(i.zero,i.size,i.bytes))=some (some z,s,bytes))(h1:a6y e=s)(h2:0<s)(h3:bytes≤1000)(h4:z.cells.size=s)(h5:d4m e z=true):ET e s:=by
 obtain⟨i,hi,hz,hs,hb⟩:=info_parts h;exact⟨h1,h2,i,z,hi,hz,hs,by omega,h4,d0u h5⟩
abbrev edZ:Array Value:= #[.int .i64 0,.slice none 0 0,.int .i64 0,.int .i64 0]
abbrev faZ:Array Value:= #[.int .i64 0,.string ⟨#[]⟩,.string ⟨#[]⟩,.int .i64 0,.int .i64 0]
abbrev d4t:Array Value:= #[.int .i64 0,.slice none 0 0,.int .i64 0,.string ⟨#[]⟩,.string ⟨#[]⟩,.bool false,.int .i64 0,.int .i64 0]
theorem a2t:ET 3 1:=b9c (z:= .int .i64 0) (bytes:=8) (by kernel_rfl) rfl (by omega) (by omega) rfl (by kernel_rfl)
theorem a1j:ET 26 2:=b9c (z:= .agg #[.int .i64 0,.int .i64 0]) (bytes:=16) (by kernel_rfl) rfl (by omega) (by omega) rfl (by kernel_rfl)
theorem b4c:ET 245 3:=b9c (z:= .agg #[.int .i64 0,.int .i64 0,.int .i64 0]) (bytes:=24) (by kernel_rfl) rfl (by omega) (by omega) rfl (by kernel_rfl)
theorem a1s:ET 206 4:=b9c (z:= .agg edZ) (bytes:=48) (by kernel_rfl) rfl (by omega) (by omega) rfl (by kernel_rfl)
theorem a7s:ET 249 4:=b9c (z:= .agg edZ) (bytes:=48) (by kernel_rfl) rfl (by omega) (by omega) rfl (by kernel_rfl)
theorem a1l:ET 140 5:=b9c (z:= .agg faZ) (bytes:=56) (by kernel_rfl) rfl (by omega) (by omega) rfl (by kernel_rfl)
theorem a4a:ET 149 8:=b9c (z:= .agg d4t) (bytes:=96) (by kernel_rfl) rfl (by omega) (by omega) rfl (by kernel_rfl)
theorem SL.nil (S:BS)(W:World)(e:TypeId):SL S W e (.slice none 0 0) 0:=⟨none,0,rfl,yR _,.inl ⟨rfl,rfl⟩⟩
theorem SL.blk {S:BS}{W:World}{e:TypeId}{b n:Nat}{c:Array Value}(hb:S b)(hc:Blk W b c e)(hn:n*a6y e≤c.size):SL S W e (.slice (some ⟨b,0,none⟩) n n) n :=
 ⟨_,n,rfl,yR _,.inr ⟨b,0,c,by rw[Nat.zero_mul],hb,hc,by rw[Nat.zero_add];exact hn⟩⟩
theorem SL.some_ {S:BS}{W:World}{e:TypeId}{v:Value}{n:Nat}(h:SL S W e v n)(hn:0<n):∃b off cap,v= .slice (some ⟨b,off,none⟩) n cap∧n≤cap∧S b:=by
 obtain⟨a,cap,rfl,h1,⟨rfl,rfl⟩|⟨b,o,c,rfl,hb,-,-⟩⟩:=h
 ·omega
 ·exact⟨b,_,cap,rfl,h1,hb⟩
theorem SL.form {S:BS}{W:World}{e:TypeId}{v:Value}{n:Nat}(h:SL S W e v n):∃a cap,v= .slice a n cap∧n≤cap:=by
 obtain⟨a,cap,rfl,h1,-⟩:=h;exact⟨a,cap,rfl,h1⟩
theorem SL.cell {S:BS}{W:World}{e:TypeId}{b off n cap s:Nat}(hT:TW S W)(he:ET e s)(h:SL S W e (.slice (some ⟨b,off,none⟩) n cap) n){k:Nat}(hk:k<n)(i:Nat)(ct:CT)(hct:(a2o e)[i]? =some ct) :
 ∃u,W.cell? ⟨b,off+k*s+i,none⟩=some u∧ct.ok S W u:=by
 obtain⟨a,cap',h0,h1,⟨rfl,rfl⟩|⟨b',o,c,rfl,hb,hc,hl⟩⟩:=h
 ·simp at h0
 ·simp only[Value.slice.injEq,Option.some.injEq,Addr.mk.injEq,and_true,true_and] at h0
  obtain⟨⟨rfl,rfl⟩,rfl⟩:=h0;have hs:=he.size;rw[hs] at hl ⊢;obtain⟨c0,e0,hc0,ht⟩:=hT b hb;obtain⟨rfl,rfl⟩:c0=c∧e0=e:=by
   unfold Blk at hc hc0;rw[hc] at hc0
   cases hc0;exact⟨rfl,rfl⟩
  have hi:i<s:=by rw[←hs];exact (List.getElem?_eq_some_iff.1 hct).1
  have hle:(o+k+1)*s≤(o+cap)*s:=Nat.mul_le_mul_right s (by omega);rw[Nat.add_mul,Nat.add_mul,Nat.one_mul] at hle;have hlt:o*s+k*s+i<c0.size:=by omega
  refine⟨c0[o*s+k*s+i],?_,?_⟩
  ·rw[hc.cell,Array.getElem?_eq_getElem hlt]
  ·refine ht (o*s+k*s+i) _ ct (Array.getElem?_eq_getElem hlt) ?_
   rw[hs,←Nat.add_mul,Nat.mul_comm,Nat.mul_add_mod,Nat.mod_eq_of_lt hi];exact hct
theorem SL.store {X S:BS}{W:World}{e:TypeId}{b off n cap s:Nat}(hT:TW S W)(he:ET e s)(h:SL S W e (.slice (some ⟨b,off,none⟩) n cap) n)(k:Nat)(i:Nat)(ct:CT)(hct:(a2o e)[i]? =some ct)(v:Value)(hv:ct.ok S W v) :
 Ev X S W S (W.setCell ⟨b,off+k*s+i,none⟩ v)∧W.frozen? ⟨b,off+k*s+i,none⟩=false:=by
 obtain⟨a,cap',h0,h1,⟨rfl,rfl⟩|⟨b',o,c,rfl,hb,hc,hl⟩⟩:=h
 ·simp at h0
 ·simp only[Value.slice.injEq,Option.some.injEq,Addr.mk.injEq,and_true,true_and] at h0
  obtain⟨⟨rfl,rfl⟩,rfl⟩:=h0;have hs:=he.size;have hi:i<s:=by rw[←hs];exact (List.getElem?_eq_some_iff.1 hct).1
  refine⟨Ev.set hT hb hc _ v (fun ct' h=> ?_),hc.frozen _⟩;rw[hs,←Nat.add_mul,Nat.mul_comm,Nat.mul_add_mod,Nat.mod_eq_of_lt hi,hct] at h
  cases h;exact hv
theorem SL.take {S:BS}{W:World}{e:TypeId}{a:Option Addr}{n cap k:Nat}(h:SL S W e (.slice a n cap) n)(hk:k≤n):SL S W e (.slice a k cap) k:=by
 obtain⟨a',cap',h0,h1,h2⟩:=h
 cases h0;exact⟨a,cap,rfl,by omega,h2⟩
theorem SL.drop {S:BS}{W:World}{e:TypeId}{b off n cap k o2 s:Nat}(hs:a6y e=s)(h:SL S W e (.slice (some ⟨b,off,none⟩) n cap) n)(hk:k≤n)(ho:o2=off+k*s∨(k=cap∧o2=off)):SL S W e (.slice (some ⟨b,o2,none⟩) (n-k) (cap-k)) (n-k):=by
 obtain⟨a',cap',h0,h1,⟨rfl,rfl⟩|⟨b',o,c,rfl,hb,hc,hl⟩⟩:=h
 ·simp at h0
 ·simp only[Value.slice.injEq,Option.some.injEq,Addr.mk.injEq,and_true,true_and] at h0
  obtain⟨⟨rfl,rfl⟩,rfl⟩:=h0;rw[hs] at hl;rcases ho with rfl|⟨rfl,rfl⟩
  ·exact⟨_,_,rfl,by omega,.inr ⟨b,o+k,c,by rw[hs,Nat.add_mul],hb,hc,by rw[hs,show o+k+(cap-k)=o+cap from by omega];exact hl⟩⟩
  ·exact⟨_,_,rfl,by omega,.inr ⟨b,o,c,by rw[hs],hb,hc,by rw[hs,Nat.sub_self,Nat.add_zero];exact Nat.le_trans (Nat.mul_le_mul_right s (by omega)) hl⟩⟩
theorem b9d {S:BS}{W:World}{e:TypeId}{s:Nat}(he:a6y e=s){c:Array Value}(hc:c.size=s)(h:∀(i:Nat)(u:Value)(ct:CT),c[i]? =some u→(a2o e)[i]? =some ct→ct.ok S W u):TB S W e c:=fun i u ct h1 h2=>by
 have hi:i<s:=by rw[←hc];exact (Array.getElem?_eq_some_iff.1 h1).1
 rw[he,Nat.mod_eq_of_lt hi] at h2;exact h i u ct h1 h2
theorem a3n {S:BS}{W:World}{x y:Int}(hx:a0i x)(hy:a0i y):TB S W 26 #[.int .i64 x,.int .i64 y]:=b9d rfl rfl fun i u ct h1 h2=>by
 match i,h1,h2 with
 |0,h1,h2=>cases h1;cases h2;exact CT.ok_int hx
 |1,h1,h2=>cases h1;cases h2;exact CT.ok_int hy
 |i+2,h1,_=>simp at h1
theorem c0x {S:BS}{W:World}{x:Int}(hx:a0i x):TB S W 3 #[.int .i64 x]:=b9d rfl rfl fun i u ct h1 h2=>by
 match i,h1,h2 with
 |0,h1,h2=>cases h1;cases h2;exact CT.ok_int hx
 |i+1,h1,_=>simp at h1
theorem b3b {S:BS}{W:World}{e:TypeId}:TB S W e #[]:=fun i u ct h1 _=>by simp at h1
theorem a6z {S:BS}{W:World}{id l r:Int}{v:Value}{n:Nat}(hi:a0i id)(hl:a0i l)(hr:a0i r)(hv:SL S W 26 v n)(hn:n≤100):TB S W 206 #[.int .i64 id,v,.int .i64 l,.int .i64 r]:=b9d rfl rfl fun i u ct h1 h2=>by
 match i,h1,h2 with
 |0,h1,h2=>cases h1;cases h2;exact CT.ok_int hi
 |1,h1,h2=>cases h1;cases h2;exact CT.ok_sl hv hn
 |2,h1,h2=>cases h1;cases h2;exact CT.ok_int hl
 |3,h1,h2=>cases h1;cases h2;exact CT.ok_int hr
 |i+4,h1,_=>simp at h1
theorem c8a {S:BS}{W:World}{id l r:Int}{v:Value}{n:Nat}(hi:a0i id)(hl:a0i l)(hr:a0i r)(hv:SL S W 245 v n)(hn:n≤100):TB S W 249 #[.int .i64 id,v,.int .i64 l,.int .i64 r]:=b9d rfl rfl fun i u ct h1 h2=>by
 match i,h1,h2 with
 |0,h1,h2=>cases h1;cases h2;exact CT.ok_int hi
 |1,h1,h2=>cases h1;cases h2;exact CT.ok_sl hv hn
 |2,h1,h2=>cases h1;cases h2;exact CT.ok_int hl
 |3,h1,h2=>cases h1;cases h2;exact CT.ok_int hr
 |i+4,h1,_=>simp at h1
def b4d (n:Nat):Prop:=n≤9223372036854775807
structure TD (S:BS)(n₀ D:Nat)(sv:Value)(xs:List Int)(W:World):Prop where
 tw:TW S W
 box:∃j:Nat,j≤xs.length∧Blk W D #[sv,.int .i64 (j:Nat)] 137
 ints:Ints n₀ W sv xs
 le:n₀≤D
 len:b4d xs.length
 low:∀b,S b→n₀≤b
 not:¬S D
abbrev a9h (D:Nat):BS:=fun b=>b=D
theorem TD.lt {S:BS}{n₀ D:Nat}{sv:Value}{xs:List Int}{W:World}(h:TD S n₀ D sv xs W):D<W.heap.size:=by obtain⟨j,-,hb⟩:=h.box;exact hb.lt
theorem TD.ev {X S S':BS}{n₀ D:Nat}{sv:Value}{xs:List Int}{W W':World}(h:TD S n₀ D sv xs W)(he:Ev X S W S' W')(hX:∀b,X b→n₀≤b∧b≠D):TD S' n₀ D sv xs W':=by
 have hlt:=h.lt;obtain⟨j,hj,hb⟩:=h.box;have hlow:∀b,S' b→n₀≤b:=fun b hb=>by
  rcases he.new b hb with h1|h1
  ·exact h.low b h1
  ·have:=h.le;omega
 have hbel:Below n₀ W W':=he.below h.low (fun b hb=>(hX b hb).1) (by have:=h.le;omega);exact⟨he.ok,⟨j,hj,he.blk hb h.not (fun hx=>(hX D hx).2 rfl)⟩,h.ints.below hbel,h.le,h.len,hlow,he.not hlt h.not⟩
theorem c5h (n₀ D j:Nat)(xs:List Int)(sv:Value)(m v:Int)(w:World)(hv:a8i xs j m=v)(hm1:1≤m)(hm2:m≤4611686018427387904)(hD:n₀≤D)(hI:Ints n₀ w sv xs)(hj:j≤xs.length)(hlen:b4d xs.length)(hB:Blk w D #[sv,.int .i64 (j:Nat)] 137) :
 Calls prog 73 #[.pointer (some ⟨D,0,none⟩),.int .i64 m] w fun e w'=>∃p,e= .returned (.int .i64 v)∧w'=(w.setCell ⟨D,1,none⟩ (.int .i64 (min (j+1) xs.length:Nat))).growBy p:=by
 subst hv;by_cases hlt:j<xs.length
 ·rw[show min (j+1) xs.length=j+1 from by omega]
  have c0:w.cell? ⟨D,0,none⟩=some sv:=hB.cell 0;have c1:w.cell? ⟨D,1,none⟩=some (.int .i64 (j:Nat)):=hB.cell 1;have f1:=hB.frozen 1;obtain⟨a,cap,rfl,hc⟩:=hI;obtain⟨b,off,rfl,hb,fx,cx⟩:=hc j hlt;have hx:a8i xs j m=xs[j] % m:=by unfold a8i;rw[List.getD_eq_getElem?_getD,List.getElem?_eq_getElem hlt];rfl
  rw[hx];obtain⟨x,hxx⟩:∃x,xs[j]=x:=⟨_,rfl⟩;rw[hxx] at fx cx ⊢;have hbD:¬b=D:=by omega
  have hDb:¬D=b:=by omega
  have hlt':(j:Int)<(xs.length:Int):=by omega
  have hjw:IntKind.i64.wrap ((j:Int)+1)=(j:Int)+1:=by unfold b4d at hlen;exact a0s (by omega) (by omega)
  have hjv:wrap64 ((j:Int)+1)=(j:Int)+1:=by unfold b4d at hlen;exact Go.IntWalk.wrap64_in _ ⟨by omega,by omega⟩
  clear hc hxx hx hj;go_enter func73,ntmps73;go_wp2_with fail;first|with_reducible refine a0v (by kernel_rfl) (by kernel_rfl) ?_|with_reducible refine a1a (by kernel_rfl) (by kernel_rfl) ?_
  repeat (first|go_big_quiet_step (fail)|quiet_step (fail))
  refine wpQuiet_nil ?_;intro _ hw_;obtain⟨p,hw_⟩:=hw_;subst hw_;go_wp2_with fail;have hju:wrap64 (j:Int)=(j:Int):=by unfold b4d at hlen;exact Go.IntWalk.wrap64_in _ ⟨by omega,by omega⟩
  clear hlen;first|with_reducible refine a0v (by kernel_rfl) (by kernel_rfl) ?_|with_reducible refine a1a (by kernel_rfl) (by kernel_rfl) ?_
  repeat (first|go_big_quiet_step ((go_at_call 77;exact Calls.grow_of_same (a0p _ _ _ fx hm1 hm2)))|quiet_step ((go_at_call 77;exact Calls.grow_of_same (a0p _ _ _ fx hm1 hm2))))
  refine wpQuiet_nil ?_;intro _ hw_;obtain⟨p,hw_⟩:=hw_;subst hw_;go_wp2_with fail;go_ret;exact⟨_,rfl,rfl⟩
 ·obtain rfl:j=xs.length:=by omega
  rw[show min (xs.length+1) xs.length=xs.length from by omega];have c0:w.cell? ⟨D,0,none⟩=some sv:=hB.cell 0;have c1:w.cell? ⟨D,1,none⟩=some (.int .i64 (xs.length:Nat)):=hB.cell 1;have f1:=hB.frozen 1;have hid:=World.setCell_id w D 1 _ c1;have hz:a8i xs xs.length m=0:=by unfold a8i;rw[List.getD_eq_getElem?_getD,List.getElem?_eq_none (by omega)];simp
  rw[hz];have hge':¬(xs.length:Int)<(xs.length:Int):=by omega
  obtain⟨a,cap,rfl,-⟩:=hI;clear hz hlen hj;go_enter func73,ntmps73;go_wp2_with fail;first|with_reducible refine a0v (by kernel_rfl) (by kernel_rfl) ?_|with_reducible refine a1a (by kernel_rfl) (by kernel_rfl) ?_
  repeat (first|go_big_quiet_step (fail)|quiet_step (fail))
  refine wpQuiet_nil ?_;intro _ hw_;obtain⟨p,hw_⟩:=hw_;subst hw_;go_wp2_with fail;go_ret;exact⟨_,rfl,by rw[hid]⟩
theorem TD.call {S:BS}{n₀ D:Nat}{sv:Value}{xs:List Int}{W:World}(h:TD S n₀ D sv xs W)(m:Int)(hm1:1≤m)(hm2:m≤4611686018427387904) :
 Calls prog 73 #[.pointer (some ⟨D,0,none⟩),.int .i64 m] W fun e W'=>∃v,e= .returned (.int .i64 v)∧0≤v∧v<m∧TD S n₀ D sv xs W'∧W.grownBy W' (some D)∧Ev (a9h D) S W S W':=by
 obtain⟨j,hj,hb⟩:=h.box;refine (c5h n₀ D j xs sv m _ W rfl hm1 hm2 h.le h.ints hj h.len hb).mono ?_;rintro e W'⟨p,rfl,rfl⟩;have hg:=a3a W D 1 (.int .i64 (min (j+1) xs.length:Nat)) p;have hn:=c0l xs j hm1;have hE:Ev (a9h D) S W S _:=Ev.of_grown h.tw hg (fun r e=>by cases e;exact⟨h.not,rfl⟩);refine⟨_,rfl,hn.1,hn.2,⟨hE.ok,⟨min (j+1) xs.length,by omega,?_⟩,h.ints.below (Below.of_grown hg (by have:=h.le;have:=hb.lt;omega) (fun r e=>by cases e;exact h.le)),h.le,h.len,h.low,h.not⟩,hg,hE⟩;have:=(hb.set 1 (.int .i64 (min (j+1) xs.length:Nat))).grow p;simpa using this
end
section
open Go Go.RowKit Go.Shelf Go.Lib
attribute [local go_sem] Oper.semAt_some
attribute [local go_sem ↓] Go.wp_at_zero Go.wp_at_succ
def pfS (s:Sh)(p:Pc):Bool×List Dt:=plF s p.x p.y p.id p.cls p.id
theorem c8b (i j:Int)(cls:ByteArray)(num:Int)(h:num≤999):(b6t i j cls num).length≤33:=by
 unfold b6t a2j;have h1:=a6w i j (a2s num.toNat) (a6m i j (a8e (plM cls)) 9) (a1f num.toNat).size;have h2:=a8n i j (a8e (plM cls)) 9;have h3:=a7r num.toNat (by omega);omega
theorem a8o (s:Sh)(p:Pc):(pfS s p).2.length≤33:=by
 unfold pfS plF;split
 ·rename_i h
  simp only[Bool.and_eq_true,decide_eq_true_eq] at h;exact Nat.le_trans (a5e _ _) (c8b _ _ _ _ h.1.2)
 ·simp
theorem a2d {W:World}{base:Nat}{e:TypeId}{s:Nat}{v:Value}{n:Nat}{xs:List Value}(h:W.ownsRow base e s v n xs):Frm v n:=by
 rcases h.2 with ⟨e1,-⟩|⟨g,cap,cur,e1,-⟩
 ·exact .inl e1
 ·exact .inr ⟨g,0,cap,e1⟩
theorem c5i (s:Sh)(id x y wt di num:Int)(cls name:ByteArray)(w:World)(f0:a0i s.ax)(f1:a0i s.ay)(hid:a0i id)(hcl:cls.size≤1000)(htab:Pow w) :
 Calls prog 23 #[shV s,.agg (plC id x y wt di cls name),.int .i64 num] w fun e w'=>∃v,e= .returned (.tuple #[v,.bool (plF s x y id cls num).1])∧Lst dtE w'.heap.size w' v (plF s x y id cls num).2∧Frm v (plF s x y id cls num).2.length∧Below w.heap.size w w':=by
 obtain⟨⟨i,j,b⟩,hof⟩:∃p,ofS s x y=p:=⟨_,rfl⟩
 cases b with
 |false =>
  rw[c0w hof (.inl rfl)];refine (c0r s id x y wt di num i j cls name w f0 f1 hof).mono ?_;rintro e w'⟨rfl,hb⟩;exact⟨_,rfl,Lst.nil _ _ _,.inl rfl,hb⟩
 |true =>
  by_cases hr:num<1∨999<num
  ·rw[c0w hof (.inr hr)]
   refine (b1m s id x y wt di num i j cls name w f0 f1 hof hr).mono ?_;rintro e w'⟨rfl,hb⟩;exact⟨_,rfl,Lst.nil _ _ _,.inl rfl,hb⟩
  ·obtain⟨n,rfl⟩:∃n:Nat,num=n:=⟨num.toNat,by omega⟩
   rw[c5f hof (by omega) (by omega)];unfold b6t;rw[Int.toNat_natCast];obtain⟨hm,hsum⟩:=c9z cls;have hs:=a5h (b4a hof).1;have hit:∀W,Below w.heap.size w W→Calls prog 65 #[.int .i64 (n:Nat)] W fun e W'=>e= .returned (.string (a8h n))∧Below W.heap.size W W':=fun W hW=>by
    refine (Tryz.strconv_Itoa (n:Nat) (by omega) (by omega) W (htab.below hW)).mono ?_;rintro e W'⟨rfl,k,os,rfl⟩;refine⟨?_,?_⟩
    ·unfold a8h Lib.itoa
     rw[if_neg (by omega),Int.toNat_natCast]
    ·refine⟨rfl,rfl,rfl,?_,fun q hq=> ?_⟩
     ·show W.heap.size≤(W.heap++os).size
      rw[Array.size_append];omega
     ·show (W.heap++os)[q]? =W.heap[q]?
      rw[Array.getElem?_append_left hq]
   have hwr:∀W,Calls prog 64 #[.string (a8h n)] W fun e W'=>e= .returned (.tuple #[.string (a1f n),.int .i64 0])∧Below W.heap.size W W':=fun W=>b2r (a8h n) (b0w n) (by rw[a5r];have:=a3u 2 n (by omega);omega) W
   have hdots:∀k (h:k<(a1f n).size) W,Calls prog 66 #[.int .u8 ((a1f n)[k]).toNat] W fun e W'=>e= .returned (.agg #[.bool (a2s n k 0),.bool (a2s n k 1),.bool (a2s n k 2),.bool (a2s n k 3),.bool (a2s n k 4),.bool (a2s n k 5)])∧Below W.heap.size W W':=fun k hk W=>by
    rw[a2k n k hk 0,a2k n k hk 1,a2k n k hk 2,a2k n k hk 3,a2k n k hk 4,a2k n k hk 5];exact c9x _ (b1k n k hk) W
   refine (b6n s id x y wt di n i j cls name (a8h n) (a1f n) (a2s n) (plM cls) w f0 f1 hof hid (by omega) (by omega) (by omega) hm hsum (by have:=a7r n (by omega);omega) hit hwr hdots (b1l i j id _ n)).mono ?_;have hkeys:∀p,p∈(a5i i j id (a8e (plM cls)) (a2s n) (a1f n).size).map (·.1)↔p∈a2j i j (a8e (plM cls)) (a2s n) (a1f n).size:=fun p=>by
    rw[a4r,a5u];simp
   have hpl:=a9e i j (a8e (plM cls)) n (by omega);rintro e w'⟨hb,⟨h,v,base,rfl,-,hrow⟩|⟨⟨p,hp,h⟩,rfl⟩⟩
   ·have hall:∀p∈a2j i j (a8e (plM cls)) (a2s n) (a1f n).size,onS s p.1 p.2=true:=fun p hp=>h p ((hkeys p).2 hp)
    rw[if_pos (List.all_eq_true.2 hall)];rw[a4r,←b1i hall] at hrow;exact⟨v,rfl,a0b a6s hrow (by have:=a5e id (a2j i j (a8e (plM cls)) (a2s n) (a1f n).size);simp only;omega),a2d hrow,hb⟩
   ·rw[if_neg (fun hc=>by have:=List.all_eq_true.1 hc p ((hkeys p).1 hp);rw[h] at this;cases this)]
    exact⟨_,rfl,Lst.nil _ _ _,.inl rfl,hb⟩
abbrev c6v (ev fv wv pv:Value):Value:= .agg #[ev,fv,wv,pv]
abbrev d2f (s:Sh)(x:Pc×Value):Value:= .agg #[.int .i64 x.1.id,.int .i64 x.1.x,.int .i64 x.1.y,.string x.1.cls,.string x.1.nm,.int .i64 x.1.wt,.int .i64 x.1.ds,x.2,.bool (pfS s x.1).1]
def KxC (s:Sh)(ps:List Pc)(pre:List (Pc×Value))(x:Pc×Value)(W:World):Prop :=
 (∃rs,ps=pre.map Prod.fst++x.1::rs)∧Lst dtE W.heap.size W x.2 (pfS s x.1).2∧Frm x.2 (pfS s x.1).2.length
theorem KxC.put {s:Sh}{ps:List Pc}{pre:List (Pc×Value)}{x:Pc×Value}{W:World}{l:Nat}{o o':Obj}(hl:W.heap[l]? =some o)(ho:o.isCells=false)(ho':o'.isCells=false)(h:KxC s ps pre x W):KxC s ps pre x (W.putObj l o'):=by
 obtain⟨h1,⟨a,cap,e,c1,c2,c3⟩,h3⟩:=h;refine⟨h1,⟨a,cap,e,c1,c2,fun j hj=> ?_⟩,h3⟩;obtain⟨b,off,rfl,hb,hc⟩:=c3 j hj;refine⟨b,off,rfl,by simpa using hb,fun i hi=> ?_⟩;rw[←hc i hi];unfold World.cell?;by_cases hbl:b=l
 ·subst hbl
  have h0:=hc i hi;unfold World.cell? at h0;simp only[hl] at h0
  cases o <;> simp_all [Obj.isCells]
 ·simp only[World.putObj_heap_other hbl]
theorem a4l (s:Sh)(ev fv wv pv:Value)(w:World) :
 Calls prog 35 #[c6v ev fv wv pv,shV s] w fun e w'=>e= .returned (.func (.func 84) #[] #[.pointer (some ⟨w.heap.size,0,none⟩),.pointer (some ⟨w.heap.size+1,0,none⟩)])∧Blk w' w.heap.size #[ev,fv,wv,pv] 37∧Blk w' (w.heap.size+1) #[.int .i64 s.ax,.int .i64 s.ay,.int .i64 s.st,.int .i64 s.w,.int .i64 s.h,.int .i64 s.g] 28∧Below w.heap.size w w':=by
 obtain⟨ax,ay,st,sw,sh,sg⟩:=s;go_enter func35,ntmps35;have hmf:∀(fn:Fn) (first cap:Array Value) (w:World),(Instr.makeFunc fn first cap).run prog w= .ok (.func fn first cap) w:=fun _ _ _ _=>rfl
 go_wp2_with fail;go_ret;have k2:=Blk.new (w.alloc (.cells #[ev,fv,wv,pv] 37)) #[.int .i64 ax,.int .i64 ay,.int .i64 st,.int .i64 sw,.int .i64 sh,.int .i64 sg] 28;rw[World.size_alloc] at k2;exact⟨rfl,(Blk.new _ _ _).alloc _,k2,(by repeat' (first|with_reducible (first|exact zR _ _|exact yR _|assumption|refine zG ?_ ?_ _|refine zA ?_ ?_ _|refine zS ?_ ?_ _|refine zD ?_|refine yA ?_|refine yG ?_|refine yS ?_|refine yD ?_)|omega|(dsimp only;omega)))⟩
end
end Go.Proofs.YtfocdbjceedagaaGreatDoor
