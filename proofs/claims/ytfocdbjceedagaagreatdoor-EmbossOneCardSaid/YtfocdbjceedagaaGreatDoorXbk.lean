/-
  Parts.
-/
import Derived.Test.YtfocdbjceedagaaGreatDoorXbj
set_option linter.unusedVariables false
set_option linter.unusedSimpArgs false
namespace Go.Proofs.YtfocdbjceedagaaGreatDoor
open Tryz
section
open Go.RowKit Go.Shelf
attribute [local go_sem] Oper.semAt_some
theorem b3k {b:Act}{k:Nat}{v:Value}(h:b.tmps[k]?.getD undef=v):b.eval (.tmp k)=v:=by
 simpa [Act.eval] using h
def Own (n:Nat)(v:Value):Prop:=∀a k c,v= .slice (some a) k c→n≤a.block
theorem a7b (n:Nat):Own n (.slice none 0 0):=fun _ _ _ e=>by cases e
theorem a4p {base b:Nat}(hb:base≤b):∀(vs:List Value)(o:Nat)(W:World),base≤W.heap.size→Below base W (W.setCells b o vs)
 |[],_,_,_=>zR _ _
 |v::vs,o,W,hW=>by
  have h1:Below base W (W.setCell ⟨b,o,none⟩ v):=(zR _ W).grown (a1g W b o v) hW (fun q e=>by cases e;exact hb);have h2:=a4p hb vs (o+1) (W.setCell ⟨b,o,none⟩ v) (by simpa using hW);exact h1.trans h2
theorem a8v {X S:BS}{W:World}(hT:TW S W){t e ty:TypeId}{s:Nat}(ht:prog.underlying t=some (.slice e))(he:ET e s){sv xv:Value}{n m:Nat}(hv:SL S W e sv n)(hx:SL S W e xv m)(hl:n+m≤1000000){base:Nat}(hbase:base≤W.heap.size)(hown:Own base sv) :
 ∃v' S' W',(Builtin.append_ #[t,t] ty #[sv,xv]).run prog W= .ok v' W'∧SL S' W' e v' (n+m)∧Ev X S W S' W'∧Below base W W'∧Own base v':=by
 obtain⟨i,z,hi,hz,hsz,hby,hzs,hzt⟩:=he.info;have hp:=he.pos;have hss:=he.size;obtain⟨xa,xc,news,rfl,hxn,hnl,hnc,hnt,hn1,hx0⟩:=hx.cells hT he;have hsrc:Src prog i.size t (.slice xa m xc) m news W:=by
  cases xa with
  |none =>
   obtain rfl:=hx0 rfl;obtain rfl:news=[]:=List.eq_nil_of_length_eq_zero (by simpa using hnl);exact Src.ofNil W ht xc
  |some ad=>exact Src.ofSlice W ht ad m xc news (by rw[hsz];exact hnl) (fun j u hj=>by obtain⟨ad',h,hc⟩:=hnc j u hj;cases h;exact hc) hn1
 have hv':=hv;obtain⟨a,cap,olds,rfl,hnc',hol,hoc,hot,ho1,ha0⟩:=hv.cells hT he;by_cases hroom:n+m≤cap
 ·obtain⟨a2,cap2,h2,-,h3⟩:=hv'
  cases h2;rcases h3 with ⟨rfl,rfl⟩|⟨b,o,c,rfl,hb,hc,hcl⟩
  ·obtain rfl:n=0:=by omega
   obtain rfl:m=0:=by omega
   refine⟨.slice none 0 0,S,W,?_,⟨none,0,rfl,yR _,.inl ⟨rfl,rfl⟩⟩,Ev.refl hT,zR _ _,a7b _⟩;simp[Builtin.append_,run_underlying ht,sizeOf,typeInfo,hi,hsrc.len,hsrc.cells]
  ·have hob:base≤b:=hown _ _ _ rfl
   rw[hss] at hcl ⊢;have hmul:(n+m)*s≤cap*s:=Nat.mul_le_mul_right s hroom;rw[Nat.add_mul] at hmul hcl;have hcell:∀j,j<news.length→(W.cell? ⟨b,o*s+n*i.size+j,none⟩).isSome=true:=fun j hj=>by
    rw[hc.cell,hsz,Array.getElem?_eq_getElem (by omega)];rfl
   have hr:=run_append_room_src (P:=prog) W t t ty e i ht hi b (o*s) n cap (.slice xa m xc) m news hsrc hroom hcell (fun j hj=>hc.frozen _);refine⟨_,S,_,hr,?_,?_,a4p hob news _ W hbase,fun a' k' c' e'=>by cases e';exact hob⟩
   ·have hE:=Ev.setCells (X:=X) hb news (o*s+n*i.size) W c hT hc (fun j u ct h1 h2=>hnt j u ct h1 (by
     rw[hss,hsz,←Nat.add_mul,Nat.mul_comm,Nat.mul_add_mod] at h2;exact h2))
    exact hE.sl ⟨_,cap,rfl,hroom,.inr ⟨b,o,c,by rw[hss],hb,hc,by rw[hss,Nat.add_mul];omega⟩⟩
   ·exact Ev.setCells hb news (o*s+n*i.size) W c hT hc (fun j u ct h1 h2=>hnt j u ct h1 (by
     rw[hss,hsz,←Nat.add_mul,Nat.mul_comm,Nat.mul_add_mod] at h2;exact h2))
 ·have hold:(Builtin.firstCells i.size n (.slice a n cap)).run prog W.drew= .ok olds.toArray W.drew:=by
   cases a with
   |none =>
    obtain rfl:=ha0 rfl;obtain rfl:olds=[]:=List.eq_nil_of_length_eq_zero (by simpa using hol);exact run_firstCells_none W.drew _ _ _ _
   |some ad=>exact run_firstCells_some W.drew i.size n ad n cap olds (by rw[hsz];exact hol) (fun j u hj=>by obtain⟨ad',h,hc⟩:=hoc j u hj;cases h;simpa using hc)
  have hge:=grownCap_ge W (n+m) cap e;have hcap:Builtin.nextslicecap (n+m) cap*i.bytes≤281474976710656:=growslice_fits (by omega) (Nat.le_trans (Nat.mul_le_mul hl hby) (by decide));have hr:=run_append_grow_src (P:=prog) W t t ty e i z ht hi hz a n cap olds hold (.slice xa m xc) m news hsrc (by omega) (by omega) hcap;have hTd:=(Ev.drew (X:=X) hT).ok;have hdr:=Ev.drew (X:=X) hT;have hB:TB S W.drew e ((olds++news).toArray++Builtin.zeroCells z.cells (grownCap W (n+m) cap e-(n+m))):=by
   intro j u ct h1 h2;rw[hss] at h2;rw[Array.getElem?_append] at h1;split at h1
   ·rw[List.getElem?_toArray,List.getElem?_append] at h1
    split at h1
    ·exact hdr.ct (hot j u ct h1 h2)
    ·rename_i h3 h4
     refine hdr.ct (hnt _ u ct h1 ?_);rw[hol] at h4 ⊢;have:(j-n*s) % s=j % s:=by
      conv=>rhs;rw[show j=(j-n*s)+s*n from by rw[Nat.mul_comm s n];omega]
      rw[Nat.add_mul_mod_self_left]
     rw[this];exact h2
   ·rename_i h3
    simp only[List.size_toArray,List.length_append,hol,hnl,←Nat.add_mul] at h1 h3;unfold Builtin.zeroCells at h1;rw[Array.getElem?_map] at h1;obtain⟨k,hk,rfl⟩:=Option.map_eq_some_iff.1 h1;obtain⟨hk1,hk2⟩:=Array.getElem?_eq_some_iff.1 hk;simp only[Array.getElem_range] at hk2;have hm:(j-(n+m)*s) % s=j % s:=by
     conv=>rhs;rw[show j=(j-(n+m)*s)+s*(n+m) from by rw[Nat.mul_comm s];omega]
     rw[Nat.add_mul_mod_self_left]
    rw[←hk2,hzs,hm];have hlt:j % s<z.cells.size:=by rw[hzs];exact Nat.mod_lt _ hp
    refine hzt S _ (j % s) _ ct ?_ h2;rw[getElem!_pos z.cells (j % s) hlt,Array.getElem?_eq_getElem hlt]
  have hA:=Ev.alloc (X:=X) hTd hB;refine⟨_,_,_,hr,?_,hdr.trans hA,(zR _ W).drew.alloc hbase _,fun a' k' c' e'=>by cases e';exact hbase⟩;refine⟨_,_,rfl,hge,.inr ⟨W.heap.size,0,_,by rw[Nat.zero_mul],.inr rfl,Blk.new W.drew _ _,?_⟩⟩;rw[hss,Nat.zero_add];simp only[Array.size_append,List.size_toArray,List.length_append,hol,hnl,size_zeroCells,hzs,←Nat.add_mul];exact Nat.mul_le_mul_right s (by omega)
theorem CT.ok.flat {U S:BS}{W:World}{ct:CT}{u:Value}(h:ct.ok U W u)(hk:ct.k≠3):ct.ok S W u:=⟨h.lt,h.i,h.s,h.b,fun e=>absurd e hk,h.a⟩
theorem b9s {X S U:BS}{W:World}(hT:TW S W)(hU:TW U W){t e ty:TypeId}{s:Nat}(ht:prog.underlying t=some (.slice e))(he:ET e s){sv xv:Value}{n m:Nat}(hv:SL S W e sv n)(hx:SL U W e xv m)(hfl:∀ct∈a2r e,ct.k≠3)(hl:n+m≤1000000){base:Nat}(hbase:base≤W.heap.size)(hown:Own base sv) :
 ∃v' S' W',(Builtin.append_ #[t,t] ty #[sv,xv]).run prog W= .ok v' W'∧SL S' W' e v' (n+m)∧Ev X S W S' W'∧Below base W W'∧Own base v':=by
 obtain⟨i,z,hi,hz,hsz,hby,hzs,hzt⟩:=he.info;have hp:=he.pos;have hss:=he.size;obtain⟨xa,xc,news,rfl,hxn,hnl,hnc,hnt,hn1,hx0⟩:=hx.cells hU he;replace hnt:∀j u ct,news[j]? =some u→(a2r e)[j % s]? =some ct→ct.ok S W u:=fun j u ct h1 h2=>(hnt j u ct h1 h2).flat (hfl ct (List.mem_of_getElem? h2))
 have hsrc:Src prog i.size t (.slice xa m xc) m news W:=by
  cases xa with
  |none =>
   obtain rfl:=hx0 rfl;obtain rfl:news=[]:=List.eq_nil_of_length_eq_zero (by simpa using hnl);exact Src.ofNil W ht xc
  |some ad=>exact Src.ofSlice W ht ad m xc news (by rw[hsz];exact hnl) (fun j u hj=>by obtain⟨ad',h,hc⟩:=hnc j u hj;cases h;exact hc) hn1
 have hv':=hv;obtain⟨a,cap,olds,rfl,hnc',hol,hoc,hot,ho1,ha0⟩:=hv.cells hT he;by_cases hroom:n+m≤cap
 ·obtain⟨a2,cap2,h2,-,h3⟩:=hv'
  cases h2;rcases h3 with ⟨rfl,rfl⟩|⟨b,o,c,rfl,hb,hc,hcl⟩
  ·obtain rfl:n=0:=by omega
   obtain rfl:m=0:=by omega
   refine⟨.slice none 0 0,S,W,?_,⟨none,0,rfl,yR _,.inl ⟨rfl,rfl⟩⟩,Ev.refl hT,zR _ _,a7b _⟩;simp[Builtin.append_,run_underlying ht,sizeOf,typeInfo,hi,hsrc.len,hsrc.cells]
  ·have hob:base≤b:=hown _ _ _ rfl
   rw[hss] at hcl ⊢;have hmul:(n+m)*s≤cap*s:=Nat.mul_le_mul_right s hroom;rw[Nat.add_mul] at hmul hcl;have hcell:∀j,j<news.length→(W.cell? ⟨b,o*s+n*i.size+j,none⟩).isSome=true:=fun j hj=>by
    rw[hc.cell,hsz,Array.getElem?_eq_getElem (by omega)];rfl
   have hr:=run_append_room_src (P:=prog) W t t ty e i ht hi b (o*s) n cap (.slice xa m xc) m news hsrc hroom hcell (fun j hj=>hc.frozen _);refine⟨_,S,_,hr,?_,?_,a4p hob news _ W hbase,fun a' k' c' e'=>by cases e';exact hob⟩
   ·have hE:=Ev.setCells (X:=X) hb news (o*s+n*i.size) W c hT hc (fun j u ct h1 h2=>hnt j u ct h1 (by
     rw[hss,hsz,←Nat.add_mul,Nat.mul_comm,Nat.mul_add_mod] at h2;exact h2))
    exact hE.sl ⟨_,cap,rfl,hroom,.inr ⟨b,o,c,by rw[hss],hb,hc,by rw[hss,Nat.add_mul];omega⟩⟩
   ·exact Ev.setCells hb news (o*s+n*i.size) W c hT hc (fun j u ct h1 h2=>hnt j u ct h1 (by
     rw[hss,hsz,←Nat.add_mul,Nat.mul_comm,Nat.mul_add_mod] at h2;exact h2))
 ·have hold:(Builtin.firstCells i.size n (.slice a n cap)).run prog W.drew= .ok olds.toArray W.drew:=by
   cases a with
   |none =>
    obtain rfl:=ha0 rfl;obtain rfl:olds=[]:=List.eq_nil_of_length_eq_zero (by simpa using hol);exact run_firstCells_none W.drew _ _ _ _
   |some ad=>exact run_firstCells_some W.drew i.size n ad n cap olds (by rw[hsz];exact hol) (fun j u hj=>by obtain⟨ad',h,hc⟩:=hoc j u hj;cases h;simpa using hc)
  have hge:=grownCap_ge W (n+m) cap e;have hcap:Builtin.nextslicecap (n+m) cap*i.bytes≤281474976710656:=growslice_fits (by omega) (Nat.le_trans (Nat.mul_le_mul hl hby) (by decide));have hr:=run_append_grow_src (P:=prog) W t t ty e i z ht hi hz a n cap olds hold (.slice xa m xc) m news hsrc (by omega) (by omega) hcap;have hTd:=(Ev.drew (X:=X) hT).ok;have hdr:=Ev.drew (X:=X) hT;have hB:TB S W.drew e ((olds++news).toArray++Builtin.zeroCells z.cells (grownCap W (n+m) cap e-(n+m))):=by
   intro j u ct h1 h2;rw[hss] at h2;rw[Array.getElem?_append] at h1;split at h1
   ·rw[List.getElem?_toArray,List.getElem?_append] at h1
    split at h1
    ·exact hdr.ct (hot j u ct h1 h2)
    ·rename_i h3 h4
     refine hdr.ct (hnt _ u ct h1 ?_);rw[hol] at h4 ⊢;have:(j-n*s) % s=j % s:=by
      conv=>rhs;rw[show j=(j-n*s)+s*n from by rw[Nat.mul_comm s n];omega]
      rw[Nat.add_mul_mod_self_left]
     rw[this];exact h2
   ·rename_i h3
    simp only[List.size_toArray,List.length_append,hol,hnl,←Nat.add_mul] at h1 h3;unfold Builtin.zeroCells at h1;rw[Array.getElem?_map] at h1;obtain⟨k,hk,rfl⟩:=Option.map_eq_some_iff.1 h1;obtain⟨hk1,hk2⟩:=Array.getElem?_eq_some_iff.1 hk;simp only[Array.getElem_range] at hk2;have hm:(j-(n+m)*s) % s=j % s:=by
     conv=>rhs;rw[show j=(j-(n+m)*s)+s*(n+m) from by rw[Nat.mul_comm s];omega]
     rw[Nat.add_mul_mod_self_left]
    rw[←hk2,hzs,hm];have hlt:j % s<z.cells.size:=by rw[hzs];exact Nat.mod_lt _ hp
    refine hzt S _ (j % s) _ ct ?_ h2;rw[getElem!_pos z.cells (j % s) hlt,Array.getElem?_eq_getElem hlt]
  have hA:=Ev.alloc (X:=X) hTd hB;refine⟨_,_,_,hr,?_,hdr.trans hA,(zR _ W).drew.alloc hbase _,fun a' k' c' e'=>by cases e';exact hbase⟩;refine⟨_,_,rfl,hge,.inr ⟨W.heap.size,0,_,by rw[Nat.zero_mul],.inr rfl,Blk.new W.drew _ _,?_⟩⟩;rw[hss,Nat.zero_add];simp only[Array.size_append,List.size_toArray,List.length_append,hol,hnl,size_zeroCells,hzs,←Nat.add_mul];exact Nat.mul_le_mul_right s (by omega)
structure OY (S0:BS)(W0:World)(S:BS)(W:World)(L:a8t)(T:SlL):Prop where
 o:OW S0 W0 S W L T
 bel:Below W0.heap.size W0 W
section
variable {S0 S S':BS}{W0 W W':World}{L:a8t}{T:SlL}{B i:Nat}{c c2 c':Array Value}{t t2 e:TypeId}{p:Nat×Array Value×TypeId}{v:Value}{n:Nat}
theorem OY.init (hT:TW S W):OY S W S W [] []:=⟨OW.init hT,zR _ _⟩
theorem OY.tw (h:OY S0 W0 S W L T):TW S W:=h.o.tw
theorem OY.size (h:OY S0 W0 S W L T):W0.heap.size≤W.heap.size:=h.bel.size
theorem OY.evo (h:OY S0 W0 S W L T)(he:Ev noB S W S' W')(hb:Below W0.heap.size W W'):OY S0 W0 S' W' L T:=⟨h.o.evo he,h.bel.trans hb⟩
theorem OY.up (h:OY S0 W0 S W L T)(hb:Below W.heap.size W W'):OY S0 W0 S W' L T:=⟨h.o.up hb,h.bel.trans (hb.mono h.size)⟩
theorem OY.drew (h:OY S0 W0 S W L T):OY S0 W0 S W.drew L T:=h.up (zR _ _).drew
theorem OY.fresh (h:OY S0 W0 S W L T)(hb:Below W.heap.size W W')(hB:W.heap.size≤B)(hk:Blk W' B c t):OY S0 W0 S W' ((B,c,t)::L) T:=⟨h.o.fresh hb hB hk,h.bel.trans (hb.mono h.size)⟩
theorem OY.box (h:OY S0 W0 S W L T)(c:Array Value)(t:TypeId):OY S0 W0 S (W.alloc (.cells c t)) ((W.heap.size,c,t)::L) T:=h.fresh ((zR _ _).alloc (yR _) _) (yR _) (Blk.new _ _ _)
theorem OY.cellT (h:OY S0 W0 S W L T){c:Array Value}{e:TypeId}(hc:TB S W e c):OY S0 W0 (fun b=>S b∨b=W.heap.size) (W.alloc (.cells c e)) L T:=h.evo (Ev.alloc h.tw hc) ((zR _ _).alloc h.size _)
theorem OY.add (h:OY S0 W0 S W L T){e:TypeId}{v:Value}{n:Nat}(hv:SL S W e v n):OY S0 W0 S W L ((e,v,n)::T):=⟨h.o.add hv,h.bel⟩
theorem OY.tail (h:OY S0 W0 S W (p::L) T):OY S0 W0 S W L T:=⟨h.o.tail,h.bel⟩
theorem OY.tailT {q:TypeId×Value×Nat}(h:OY S0 W0 S W L (q::T)):OY S0 W0 S W L T:=⟨h.o.tailT,h.bel⟩
theorem OY.swap {q:Nat×Array Value×TypeId}(h:OY S0 W0 S W (p::q::L) T):OY S0 W0 S W (q::p::L) T:=⟨h.o.swap,h.bel⟩
theorem OY.set (h:OY S0 W0 S W ((B,c,t)::L) T)(i:Nat)(v:Value)(hc:c.setIfInBounds i v=c'):OY S0 W0 S (W.setCell ⟨B,i,none⟩ v) ((B,c',t)::L) T :=
 ⟨h.o.set i v hc,h.bel.grown (a1g W B i v) h.size (fun q e=>by cases e;exact (h.o.bx _ (List.mem_cons_self ..)).2.2)⟩
theorem OY.put {v:Value}(h:OY S0 W0 S W ((B,c,t)::L) T)(hW:W'=W.setCell ⟨B,i,none⟩ v)(hc:c.setIfInBounds i v=c'):OY S0 W0 S W' ((B,c',t)::L) T:=hW▸h.set i v hc
theorem OY.b0 (h:OY S0 W0 S W ((B,c,t)::L) T):Blk W B c t:=h.o.b0
theorem OY.b1 (h:OY S0 W0 S W (p::(B,c,t)::L) T):Blk W B c t:=h.o.b1
theorem OY.b2 {p2:Nat×Array Value×TypeId}(h:OY S0 W0 S W (p::p2::(B,c,t)::L) T):Blk W B c t:=h.tail.b1
theorem OY.s0 {e:TypeId}{v:Value}{n:Nat}(h:OY S0 W0 S W L ((e,v,n)::T)):SL S W e v n:=h.o.s0
theorem OY.s1 {q:TypeId×Value×Nat}{e:TypeId}{v:Value}{n:Nat}(h:OY S0 W0 S W L (q::(e,v,n)::T)):SL S W e v n:=h.o.s1
theorem OY.s2 {q q2:TypeId×Value×Nat}{e:TypeId}{v:Value}{n:Nat}(h:OY S0 W0 S W L (q::q2::(e,v,n)::T)):SL S W e v n:=h.o.s2
theorem a6g {U:BS}{n0:Nat}(hT:TW U W)(hb:Below n0 W W')(hU:∀b,U b→b<n0):TW U W':=fun b hu=>by
 obtain⟨c,e,hc,ht⟩:=hT b hu;exact⟨c,e,hc.below hb (hU b hu),ht.mono (fun _ h=>h) (fun b' c' e' hb' hc'=>⟨c',hc'.below hb (hU b' hb'),rfl⟩)⟩
theorem a2x {U:BS}{n0:Nat}(hb:Below n0 W W')(hU:∀b,U b→b<n0)(h:SL U W e v n):SL U W' e v n:=h.mono (fun _ h=>h) (fun b' c' e' hb' hc'=>⟨c',hc'.below hb (hU b' hb'),rfl⟩)
theorem OY.old (h:OY S0 W0 S W L T){U:BS}(hT:TW U W0):TW U W:=a6g hT h.bel (fun b hb=>hT.lt hb)
theorem OY.oldS (h:OY S0 W0 S W L T){U:BS}(hT:TW U W0){v:Value}{n:Nat}(hs:SL U W0 e v n):SL U W e v n:=a2x h.bel (fun b hb=>hT.lt hb) hs
theorem OY.evn (h:OY noB W0 S W L T)(he:Ev noB noB W S' W'):OY noB W0 (fun b=>S b∨S' b) W' L T:=by
 have hb:Below W.heap.size W W':=he.low;have hS:∀b,S b→b<W.heap.size:=fun b hb=>h.tw.lt hb
 have h1:TW S W':=a6g h.tw hb hS;have hn:∀b,S' b→W.heap.size≤b:=fun b hb=>(he.new b hb).elim (fun h=>h.elim) id
 refine h.evo ⟨fun _ hb=> .inl hb,fun b hb=>hb.elim .inl (fun h=> .inr (hn b h)),he.os,he.tape,he.output,he.size,fun b hb' _ _=>hb.block b hb',fun b c e hb' hc=>⟨c,hc.below hb (hS b hb'),rfl⟩,fun b hb'=> ?_⟩ (hb.mono h.size);rcases hb' with hb'|hb'
 ·obtain⟨c,e,hc,ht⟩:=h1 b hb'
  exact⟨c,e,hc,ht.mono (fun _ h=> .inl h) (Shp.refl _ _)⟩
 ·obtain⟨c,e,hc,ht⟩:=he.ok b hb'
  exact⟨c,e,hc,ht.mono (fun _ h=> .inr h) (Shp.refl _ _)⟩
theorem a0z {S S':BS}(h:SL S' W e v n):SL (fun b=>S b∨S' b) W e v n:=h.mono (fun _ h=> .inr h) (Shp.refl _ _)
theorem OY.store (h:OY S0 W0 S W L T){e:TypeId}{b off n cap s:Nat}(he:ET e s)(hv:SL S W e (.slice (some ⟨b,off,none⟩) n cap) n)(ho:Own W0.heap.size (.slice (some ⟨b,off,none⟩) n cap))(k i:Nat)(ct:CT)(hct:(a2r e)[i]? =some ct)(u:Value)(hu:ct.ok S W u) :
 OY S0 W0 S (W.setCell ⟨b,off+k*s+i,none⟩ u) L T∧W.frozen? ⟨b,off+k*s+i,none⟩=false:=by
 obtain⟨h1,h2⟩:=SL.store (X:=noB) h.tw he hv k i ct hct u hu;exact⟨h.evo h1 ((zR _ W).grown (a1g W b _ u) h.size (fun q e=>by cases e;exact ho _ _ _ rfl)),h2⟩
theorem OY.append (h0:OY S0 W0 S W L T){o:Oper}{a:Act}{K:Act→World→Prop}{Q:Exit→Act→World→Prop}(sO xO:Operand)(t:TypeId)(ho:o.op= .call { callee:= .builtin .append,args:= #[sO,xO],argTypes:= #[t,t] })
 {e:TypeId} {s:Nat} (ht:prog.underlying t=some (.slice e)) (he:ET e s) {sv xv:Value} {n m:Nat} (hsv:a.eval sO=sv) (hv:SL S W e sv n) (hown:Own W0.heap.size sv) (hxv:a.eval xO=xv) (hx:SL S W e xv m) (hl:n+m≤1000000)
 (h:∀v' S' w',OY S0 W0 S' w' L ((e,v',n+m)::T)→Own W0.heap.size v'→K (a.put o.dst v') w'):Oper.wp prog o a W K Q:=by
 obtain⟨v',S',w',hr,h2,h3,h4,h5⟩:=a8v (X:=noB) h0.tw (ty:=o.type) ht he hv hx hl h0.size hown;unfold Oper.wp execOp;simp only[ho,resolve,invoke,builtin,Sem.run_bind,Sem.run_pure,Result.andThen_ok,List.map_toArray,List.map_cons,List.map_nil,hsv,hxv,hr];exact h v' S' w' ((h0.evo h3 h4).add h2) h5
theorem OY.append_l (h0:OY S0 W0 S W L T){ops:Array Oper}{rest:List Oper}{o:Oper}{a:Act}{Q:Exit→Act→World→Prop}(hgd:o.guard=none)(sO xO:Operand)(t:TypeId)(ho:o.op= .call { callee:= .builtin .append,args:= #[sO,xO],argTypes:= #[t,t] })
 {e:TypeId} {s:Nat} (ht:prog.underlying t=some (.slice e)) (he:ET e s) {sv xv:Value} {n m:Nat} (hsv:a.eval sO=sv) (hv:SL S W e sv n) (hown:Own W0.heap.size sv) (hxv:a.eval xO=xv) (hx:SL S W e xv m) (hl:n+m≤1000000)
 (h:∀v' S' w',OY S0 W0 S' w' L ((e,v',n+m)::T)→Own W0.heap.size v'→wpList prog ops Q rest (a.put o.dst v') w'):wpList prog ops Q (o::rest) a W :=
 wpList_plain hgd fun _ hK=>h0.append sO xO t ho ht he hsv hv hown hxv hx hl fun v' S' w' h2 h3=>hK _ _ (h v' S' w' h2 h3)
theorem OY.append_f {U:BS}(h0:OY S0 W0 S W L T)(hU:TW U W){o:Oper}{a:Act}{K:Act→World→Prop}{Q:Exit→Act→World→Prop}(sO xO:Operand)(t:TypeId)(ho:o.op= .call { callee:= .builtin .append,args:= #[sO,xO],argTypes:= #[t,t] })
 {e:TypeId} {s:Nat} (ht:prog.underlying t=some (.slice e)) (he:ET e s) (hfl:∀ct∈a2r e,ct.k≠3) {sv xv:Value} {n m:Nat} (hsv:a.eval sO=sv) (hv:SL S W e sv n) (hown:Own W0.heap.size sv) (hxv:a.eval xO=xv) (hx:SL U W e xv m) (hl:n+m≤1000000)
 (h:∀v' S' w',OY S0 W0 S' w' L ((e,v',n+m)::T)→Own W0.heap.size v'→Ev noB S W S' w'→K (a.put o.dst v') w'):Oper.wp prog o a W K Q:=by
 obtain⟨v',S',w',hr,h2,h3,h4,h5⟩:=b9s (X:=noB) h0.tw hU (ty:=o.type) ht he hv hx hfl hl h0.size hown;unfold Oper.wp execOp;simp only[ho,resolve,invoke,builtin,Sem.run_bind,Sem.run_pure,Result.andThen_ok,List.map_toArray,List.map_cons,List.map_nil,hsv,hxv,hr];exact h v' S' w' ((h0.evo h3 h4).add h2) h5 h3
theorem OY.append_fl {U:BS}(h0:OY S0 W0 S W L T)(hU:TW U W){ops:Array Oper}{rest:List Oper}{o:Oper}{a:Act}{Q:Exit→Act→World→Prop}(hgd:o.guard=none)(sO xO:Operand)(t:TypeId)(ho:o.op= .call { callee:= .builtin .append,args:= #[sO,xO],argTypes:= #[t,t] })
 {e:TypeId} {s:Nat} (ht:prog.underlying t=some (.slice e)) (he:ET e s) (hfl:∀ct∈a2r e,ct.k≠3) {sv xv:Value} {n m:Nat} (hsv:a.eval sO=sv) (hv:SL S W e sv n) (hown:Own W0.heap.size sv) (hxv:a.eval xO=xv) (hx:SL U W e xv m) (hl:n+m≤1000000)
 (h:∀v' S' w',OY S0 W0 S' w' L ((e,v',n+m)::T)→Own W0.heap.size v'→Ev noB S W S' w'→wpList prog ops Q rest (a.put o.dst v') w'):wpList prog ops Q (o::rest) a W :=
 wpList_plain hgd fun _ hK=>h0.append_f hU sO xO t ho ht he hfl hsv hv hown hxv hx hl fun v' S' w' h2 h3 h4=>hK _ _ (h v' S' w' h2 h3 h4)
theorem OY.append_n (h0:OY S0 W0 S W L T){ops:Array Oper}{rest:List Oper}{o:Oper}{a:Act}{Q:Exit→Act→World→Prop}(hgd:o.guard=none)(sO xO:Operand)(t:TypeId)(ho:o.op= .call { callee:= .builtin .append,args:= #[sO,xO],argTypes:= #[t,t] })
 {e:TypeId} {s:Nat} (ht:prog.underlying t=some (.slice e)) (he:ET e s) {v:Value} {n:Nat} (hsv:a.eval sO=v) (hv:SL S W e v n) (hown:Own W0.heap.size v) {H:Nat} (hxv:a.eval xO= .slice (some ⟨H,0,none⟩) 1 1) (hH:W.heap.size=H) {c:Array Value} (hc:TB S W e c) (hcs:c.size=s) (hl:n≤100000)
 (h:∀v' S' w',OY S0 W0 S' w' L ((e,v',n+1)::T)→Own W0.heap.size v'→wpList prog ops Q rest (a.put o.dst v') w'):wpList prog ops Q (o::rest) a (W.alloc (.cells c e)):=by
 subst hH;have h1:=h0.cellT hc;have hA:=Ev.alloc (X:=noB) h0.tw hc;exact h1.append_l hgd sO xO t ho ht he hsv (hA.sl hv) hown hxv (SL.blk (.inr rfl) (Blk.new W c e) (by rw[he.size,hcs,Nat.one_mul];exact yR _)) (by omega) h
end
end
section
open Go.RowKit Go.Shelf
attribute [local go_sem] Oper.semAt_some
attribute [local go_sem ↓] Go.wp_at_zero Go.wp_at_succ
theorem OY.empty {S0 S:BS}{W0 W:World}{L:a8t}{T:SlL}(h:OY S0 W0 S W L T)(e:TypeId):OY S0 W0 (fun b=>S b∨b=W.heap.size) (W.alloc (.cells #[] e)) L ((e,.slice (some ⟨W.heap.size,0,none⟩) 0 0,0)::T) :=
 (h.cellT b3c).add (SL.blk (.inr rfl) (Blk.new W #[] e) (by simp))
theorem a9o {n b k c:Nat}(h:n≤b)(o:Nat):Own n (.slice (some ⟨b,o,none⟩) k c):=fun a k' c' e=>by cases e;exact h
theorem a6h:∀ct∈a2r 26,ct.k≠3:=by decide
theorem a8e:∀ct∈a2r 140,ct.k≠3:=by decide
theorem b3l (U:BS)(w:World)(hT:TW U w)(v:Value)(n:Nat)(hv:SL U w 26 v n)(hn:n≤1000) :
 Calls prog 136 #[v] w fun e w'=>∃S' v',e= .returned v'∧SL S' w' 26 v' n∧Ev noB noB w S' w':=by
 have ho:=(OY.init (TW.none w)).empty 26;have hU1:=ho.old hT;have hv1:=ho.oldS hT hv;obtain⟨a,cap,rfl,-⟩:=hv.form;go_enter func136,ntmps136;go_wp2_with (first
  |(at_builtin;refine ho.append_fl hU1 (by rfl) _ _ 147 (by rfl) underlying147 a1k a6h (by rfl) ho.s0 (a9o (yR _) _) (by rfl) hv1 (by omega) ?_;intro v9 S9 w9 ho9 hown9 _)
  |fail)
 go_ret;refine⟨S9,_,rfl,?_,ho9.o.ev⟩;have:=ho9.s0;rwa [Nat.zero_add] at this
end
end Go.Proofs.YtfocdbjceedagaaGreatDoor
