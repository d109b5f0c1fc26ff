/-
  Parts.
-/
import Derived.Test.YtfocdbjceedagaaGreatDoorZbi
set_option linter.unusedVariables false
set_option linter.unusedSimpArgs false
set_option maxHeartbeats 8000000
set_option maxRecDepth 100000
namespace Go.Proofs.YtfocdbjceedagaaGreatDoor
open Tryz
section
open Go.RowKit Go.Shelf
attribute [local go_sem] Oper.semAt_some
theorem evalEq {b:Act}{k:Nat}{v:Value}(h:b.tmps[k]?.getD undef=v):b.eval (.tmp k)=v:=by
 simpa [Act.eval] using h
def Own (n:Nat)(v:Value):Prop:=∀a k c,v= .slice (some a) k c→n≤a.block
theorem own_nil (n:Nat):Own n (.slice none 0 0):=fun _ _ _ e=>by cases e
theorem Own.mono {n m:Nat}{v:Value}(h:Own m v)(hn:n≤m):Own n v:=fun a k c e=>Nat.le_trans hn (h a k c e)
theorem below_setCells {base b:Nat}(hb:base≤b):∀(vs:List Value)(o:Nat)(W:World),base≤W.heap.size→Below base W (W.setCells b o vs)
 |[],_,_,_=>zR _ _
 |v::vs,o,W,hW=>by
  have h1:Below base W (W.setCell ⟨b,o,none⟩ v):=(zR _ W).grown (grown_set W b o v) hW (fun q e=>by cases e;exact hb)
  have h2:=below_setCells hb vs (o+1) (W.setCell ⟨b,o,none⟩ v) (by simpa using hW)
  exact h1.trans h2
theorem append_twB {X S:BS}{W:World}(hT:TW S W){t e ty:TypeId}{s:Nat}(ht:prog.underlying t=some (.slice e))(he:ET e s){sv xv:Value}{n m:Nat}(hv:SL S W e sv n)(hx:SL S W e xv m)(hl:n+m≤1000000){base:Nat}(hbase:base≤W.heap.size)(hown:Own base sv) :
 ∃v' S' W',(Builtin.append_ #[t,t] ty #[sv,xv]).run prog W= .ok v' W'∧SL S' W' e v' (n+m)∧Ev X S W S' W'∧Below base W W'∧Own base v':=by
 obtain⟨i,z,hi,hz,hsz,hby,hzs,hzt⟩:=he.info
 have hp:=he.pos
 have hss:=he.size
 obtain⟨xa,xc,news,rfl,hxn,hnl,hnc,hnt,hn1,hx0⟩:=hx.cells hT he
 have hsrc:Src prog i.size t (.slice xa m xc) m news W:=by
  cases xa with
  |none =>
   obtain rfl:=hx0 rfl
   obtain rfl:news=[]:=List.eq_nil_of_length_eq_zero (by simpa using hnl)
   exact Src.ofNil W ht xc
  |some ad=>exact Src.ofSlice W ht ad m xc news (by rw[hsz];exact hnl) (fun j u hj=>by obtain⟨ad',h,hc⟩:=hnc j u hj;cases h;exact hc) hn1
 have hv':=hv
 obtain⟨a,cap,olds,rfl,hnc',hol,hoc,hot,ho1,ha0⟩:=hv.cells hT he
 by_cases hroom:n+m≤cap
 ·obtain⟨a2,cap2,h2,-,h3⟩:=hv'
  cases h2
  rcases h3 with ⟨rfl,rfl⟩|⟨b,o,c,rfl,hb,hc,hcl⟩
  ·obtain rfl:n=0:=by omega
   obtain rfl:m=0:=by omega
   refine⟨.slice none 0 0,S,W,?_,⟨none,0,rfl,yR _,.inl ⟨rfl,rfl⟩⟩,Ev.refl hT,zR _ _,own_nil _⟩
   simp[Builtin.append_,run_underlying ht,sizeOf,typeInfo,hi,hsrc.len,hsrc.cells]
  ·have hob:base≤b:=hown _ _ _ rfl
   rw[hss] at hcl ⊢
   have hmul:(n+m)*s≤cap*s:=Nat.mul_le_mul_right s hroom
   rw[Nat.add_mul] at hmul hcl
   have hcell:∀j,j<news.length→(W.cell? ⟨b,o*s+n*i.size+j,none⟩).isSome=true:=fun j hj=>by
    rw[hc.cell,hsz,Array.getElem?_eq_getElem (by omega)]
    rfl
   have hr:=run_append_room_src (P:=prog) W t t ty e i ht hi b (o*s) n cap (.slice xa m xc) m news hsrc hroom hcell (fun j hj=>hc.frozen _)
   refine⟨_,S,_,hr,?_,?_,below_setCells hob news _ W hbase,fun a' k' c' e'=>by cases e';exact hob⟩
   ·have hE:=Ev.setCells (X:=X) hb news (o*s+n*i.size) W c hT hc (fun j u ct h1 h2=>hnt j u ct h1 (by
     rw[hss,hsz,←Nat.add_mul,Nat.mul_comm,Nat.mul_add_mod] at h2
     exact h2))
    exact hE.sl ⟨_,cap,rfl,hroom,.inr ⟨b,o,c,by rw[hss],hb,hc,by rw[hss,Nat.add_mul];omega⟩⟩
   ·exact Ev.setCells hb news (o*s+n*i.size) W c hT hc (fun j u ct h1 h2=>hnt j u ct h1 (by
     rw[hss,hsz,←Nat.add_mul,Nat.mul_comm,Nat.mul_add_mod] at h2
     exact h2))
 ·have hold:(Builtin.firstCells i.size n (.slice a n cap)).run prog W.drew= .ok olds.toArray W.drew:=by
   cases a with
   |none =>
    obtain rfl:=ha0 rfl
    obtain rfl:olds=[]:=List.eq_nil_of_length_eq_zero (by simpa using hol)
    exact run_firstCells_none W.drew _ _ _ _
   |some ad=>exact run_firstCells_some W.drew i.size n ad n cap olds (by rw[hsz];exact hol) (fun j u hj=>by obtain⟨ad',h,hc⟩:=hoc j u hj;cases h;simpa using hc)
  have hge:=grownCap_ge W (n+m) cap e
  have hcap:Builtin.nextslicecap (n+m) cap*i.bytes≤281474976710656:=growslice_fits (by omega) (Nat.le_trans (Nat.mul_le_mul hl hby) (by decide))
  have hr:=run_append_grow_src (P:=prog) W t t ty e i z ht hi hz a n cap olds hold (.slice xa m xc) m news hsrc (by omega) (by omega) hcap
  have hTd:=(Ev.drew (X:=X) hT).ok
  have hdr:=Ev.drew (X:=X) hT
  have hB:TB S W.drew e ((olds++news).toArray++Builtin.zeroCells z.cells (grownCap W (n+m) cap e-(n+m))):=by
   intro j u ct h1 h2
   rw[hss] at h2
   rw[Array.getElem?_append] at h1
   split at h1
   ·rw[List.getElem?_toArray,List.getElem?_append] at h1
    split at h1
    ·exact hdr.ct (hot j u ct h1 h2)
    ·rename_i h3 h4
     refine hdr.ct (hnt _ u ct h1 ?_)
     rw[hol] at h4 ⊢
     have:(j-n*s) % s=j % s:=by
      conv=>rhs;rw[show j=(j-n*s)+s*n from by rw[Nat.mul_comm s n];omega]
      rw[Nat.add_mul_mod_self_left]
     rw[this]
     exact h2
   ·rename_i h3
    simp only[List.size_toArray,List.length_append,hol,hnl,←Nat.add_mul] at h1 h3
    unfold Builtin.zeroCells at h1
    rw[Array.getElem?_map] at h1
    obtain⟨k,hk,rfl⟩:=Option.map_eq_some_iff.1 h1
    obtain⟨hk1,hk2⟩:=Array.getElem?_eq_some_iff.1 hk
    simp only[Array.getElem_range] at hk2
    have hm:(j-(n+m)*s) % s=j % s:=by
     conv=>rhs;rw[show j=(j-(n+m)*s)+s*(n+m) from by rw[Nat.mul_comm s];omega]
     rw[Nat.add_mul_mod_self_left]
    rw[←hk2,hzs,hm]
    have hlt:j % s<z.cells.size:=by rw[hzs];exact Nat.mod_lt _ hp
    refine hzt S _ (j % s) _ ct ?_ h2
    rw[getElem!_pos z.cells (j % s) hlt,Array.getElem?_eq_getElem hlt]
  have hA:=Ev.alloc (X:=X) hTd hB
  refine⟨_,_,_,hr,?_,hdr.trans hA,(zR _ W).drew.alloc hbase _,fun a' k' c' e'=>by cases e';exact hbase⟩
  refine⟨_,_,rfl,hge,.inr ⟨W.heap.size,0,_,by rw[Nat.zero_mul],.inr rfl,Blk.new W.drew _ _,?_⟩⟩
  rw[hss,Nat.zero_add]
  simp only[Array.size_append,List.size_toArray,List.length_append,hol,hnl,size_zeroCells,hzs,←Nat.add_mul]
  exact Nat.mul_le_mul_right s (by omega)
theorem CT.ok.flat {U S:BS}{W:World}{ct:CT}{u:Value}(h:ct.ok U W u)(hk:ct.k≠3):ct.ok S W u:=⟨h.lt,h.i,h.s,h.b,fun e=>absurd e hk,h.a⟩
theorem append_flat {X S U:BS}{W:World}(hT:TW S W)(hU:TW U W){t e ty:TypeId}{s:Nat}(ht:prog.underlying t=some (.slice e))(he:ET e s){sv xv:Value}{n m:Nat}(hv:SL S W e sv n)(hx:SL U W e xv m)(hfl:∀ct∈cellsT e,ct.k≠3)(hl:n+m≤1000000){base:Nat}(hbase:base≤W.heap.size)(hown:Own base sv) :
 ∃v' S' W',(Builtin.append_ #[t,t] ty #[sv,xv]).run prog W= .ok v' W'∧SL S' W' e v' (n+m)∧Ev X S W S' W'∧Below base W W'∧Own base v':=by
 obtain⟨i,z,hi,hz,hsz,hby,hzs,hzt⟩:=he.info
 have hp:=he.pos
 have hss:=he.size
 obtain⟨xa,xc,news,rfl,hxn,hnl,hnc,hnt,hn1,hx0⟩:=hx.cells hU he
 replace hnt:∀j u ct,news[j]? =some u→(cellsT e)[j % s]? =some ct→ct.ok S W u:=fun j u ct h1 h2=>(hnt j u ct h1 h2).flat (hfl ct (List.mem_of_getElem? h2))
 have hsrc:Src prog i.size t (.slice xa m xc) m news W:=by
  cases xa with
  |none =>
   obtain rfl:=hx0 rfl
   obtain rfl:news=[]:=List.eq_nil_of_length_eq_zero (by simpa using hnl)
   exact Src.ofNil W ht xc
  |some ad=>exact Src.ofSlice W ht ad m xc news (by rw[hsz];exact hnl) (fun j u hj=>by obtain⟨ad',h,hc⟩:=hnc j u hj;cases h;exact hc) hn1
 have hv':=hv
 obtain⟨a,cap,olds,rfl,hnc',hol,hoc,hot,ho1,ha0⟩:=hv.cells hT he
 by_cases hroom:n+m≤cap
 ·obtain⟨a2,cap2,h2,-,h3⟩:=hv'
  cases h2
  rcases h3 with ⟨rfl,rfl⟩|⟨b,o,c,rfl,hb,hc,hcl⟩
  ·obtain rfl:n=0:=by omega
   obtain rfl:m=0:=by omega
   refine⟨.slice none 0 0,S,W,?_,⟨none,0,rfl,yR _,.inl ⟨rfl,rfl⟩⟩,Ev.refl hT,zR _ _,own_nil _⟩
   simp[Builtin.append_,run_underlying ht,sizeOf,typeInfo,hi,hsrc.len,hsrc.cells]
  ·have hob:base≤b:=hown _ _ _ rfl
   rw[hss] at hcl ⊢
   have hmul:(n+m)*s≤cap*s:=Nat.mul_le_mul_right s hroom
   rw[Nat.add_mul] at hmul hcl
   have hcell:∀j,j<news.length→(W.cell? ⟨b,o*s+n*i.size+j,none⟩).isSome=true:=fun j hj=>by
    rw[hc.cell,hsz,Array.getElem?_eq_getElem (by omega)]
    rfl
   have hr:=run_append_room_src (P:=prog) W t t ty e i ht hi b (o*s) n cap (.slice xa m xc) m news hsrc hroom hcell (fun j hj=>hc.frozen _)
   refine⟨_,S,_,hr,?_,?_,below_setCells hob news _ W hbase,fun a' k' c' e'=>by cases e';exact hob⟩
   ·have hE:=Ev.setCells (X:=X) hb news (o*s+n*i.size) W c hT hc (fun j u ct h1 h2=>hnt j u ct h1 (by
     rw[hss,hsz,←Nat.add_mul,Nat.mul_comm,Nat.mul_add_mod] at h2
     exact h2))
    exact hE.sl ⟨_,cap,rfl,hroom,.inr ⟨b,o,c,by rw[hss],hb,hc,by rw[hss,Nat.add_mul];omega⟩⟩
   ·exact Ev.setCells hb news (o*s+n*i.size) W c hT hc (fun j u ct h1 h2=>hnt j u ct h1 (by
     rw[hss,hsz,←Nat.add_mul,Nat.mul_comm,Nat.mul_add_mod] at h2
     exact h2))
 ·have hold:(Builtin.firstCells i.size n (.slice a n cap)).run prog W.drew= .ok olds.toArray W.drew:=by
   cases a with
   |none =>
    obtain rfl:=ha0 rfl
    obtain rfl:olds=[]:=List.eq_nil_of_length_eq_zero (by simpa using hol)
    exact run_firstCells_none W.drew _ _ _ _
   |some ad=>exact run_firstCells_some W.drew i.size n ad n cap olds (by rw[hsz];exact hol) (fun j u hj=>by obtain⟨ad',h,hc⟩:=hoc j u hj;cases h;simpa using hc)
  have hge:=grownCap_ge W (n+m) cap e
  have hcap:Builtin.nextslicecap (n+m) cap*i.bytes≤281474976710656:=growslice_fits (by omega) (Nat.le_trans (Nat.mul_le_mul hl hby) (by decide))
  have hr:=run_append_grow_src (P:=prog) W t t ty e i z ht hi hz a n cap olds hold (.slice xa m xc) m news hsrc (by omega) (by omega) hcap
  have hTd:=(Ev.drew (X:=X) hT).ok
  have hdr:=Ev.drew (X:=X) hT
  have hB:TB S W.drew e ((olds++news).toArray++Builtin.zeroCells z.cells (grownCap W (n+m) cap e-(n+m))):=by
   intro j u ct h1 h2
   rw[hss] at h2
   rw[Array.getElem?_append] at h1
   split at h1
   ·rw[List.getElem?_toArray,List.getElem?_append] at h1
    split at h1
    ·exact hdr.ct (hot j u ct h1 h2)
    ·rename_i h3 h4
     refine hdr.ct (hnt _ u ct h1 ?_)
     rw[hol] at h4 ⊢
     have:(j-n*s) % s=j % s:=by
      conv=>rhs;rw[show j=(j-n*s)+s*n from by rw[Nat.mul_comm s n];omega]
      rw[Nat.add_mul_mod_self_left]
     rw[this]
     exact h2
   ·rename_i h3
    simp only[List.size_toArray,List.length_append,hol,hnl,←Nat.add_mul] at h1 h3
    unfold Builtin.zeroCells at h1
    rw[Array.getElem?_map] at h1
    obtain⟨k,hk,rfl⟩:=Option.map_eq_some_iff.1 h1
    obtain⟨hk1,hk2⟩:=Array.getElem?_eq_some_iff.1 hk
    simp only[Array.getElem_range] at hk2
    have hm:(j-(n+m)*s) % s=j % s:=by
     conv=>rhs;rw[show j=(j-(n+m)*s)+s*(n+m) from by rw[Nat.mul_comm s];omega]
     rw[Nat.add_mul_mod_self_left]
    rw[←hk2,hzs,hm]
    have hlt:j % s<z.cells.size:=by rw[hzs];exact Nat.mod_lt _ hp
    refine hzt S _ (j % s) _ ct ?_ h2
    rw[getElem!_pos z.cells (j % s) hlt,Array.getElem?_eq_getElem hlt]
  have hA:=Ev.alloc (X:=X) hTd hB
  refine⟨_,_,_,hr,?_,hdr.trans hA,(zR _ W).drew.alloc hbase _,fun a' k' c' e'=>by cases e';exact hbase⟩
  refine⟨_,_,rfl,hge,.inr ⟨W.heap.size,0,_,by rw[Nat.zero_mul],.inr rfl,Blk.new W.drew _ _,?_⟩⟩
  rw[hss,Nat.zero_add]
  simp only[Array.size_append,List.size_toArray,List.length_append,hol,hnl,size_zeroCells,hzs,←Nat.add_mul]
  exact Nat.mul_le_mul_right s (by omega)
structure OY (S0:BS)(W0:World)(S:BS)(W:World)(L:OwnL)(T:SlL):Prop where
 o:OW S0 W0 S W L T
 bel:Below W0.heap.size W0 W
structure Nu (U:BS)(W:World)(U':BS)(W':World):Prop where
 ev:Ev noB U W U' W'
 bel:Below W.heap.size W W'
section
variable {S0 S S':BS}{W0 W W':World}{L:OwnL}{T:SlL}{B i:Nat}{c c2 c':Array Value}{t t2 e:TypeId}{p:Nat×Array Value×TypeId}{v:Value}{n:Nat}
theorem Nu.refl (hT:TW S W):Nu S W S W:=⟨Ev.refl hT,zR _ _⟩
theorem Nu.of_below (hT:TW S W)(h:Below W.heap.size W W'):Nu S W S W':=⟨Ev.of_below hT h,h⟩
theorem Nu.sl (h:Nu S W S' W')(hs:SL S W e v n):SL S' W' e v n:=h.ev.sl hs
theorem OY.init (hT:TW S W):OY S W S W [] []:=⟨OW.init hT,zR _ _⟩
theorem OY.tw (h:OY S0 W0 S W L T):TW S W:=h.o.tw
theorem OY.size (h:OY S0 W0 S W L T):W0.heap.size≤W.heap.size:=h.bel.size
theorem OY.evo (h:OY S0 W0 S W L T)(he:Ev noB S W S' W')(hb:Below W0.heap.size W W'):OY S0 W0 S' W' L T:=⟨h.o.evo he,h.bel.trans hb⟩
theorem OY.up (h:OY S0 W0 S W L T)(hb:Below W.heap.size W W'):OY S0 W0 S W' L T:=⟨h.o.up hb,h.bel.trans (hb.mono h.size)⟩
theorem OY.drew (h:OY S0 W0 S W L T):OY S0 W0 S W.drew L T:=h.up (zR _ _).drew
theorem OY.fresh (h:OY S0 W0 S W L T)(hb:Below W.heap.size W W')(hB:W.heap.size≤B)(hk:Blk W' B c t):OY S0 W0 S W' ((B,c,t)::L) T:=⟨h.o.fresh hb hB hk,h.bel.trans (hb.mono h.size)⟩
theorem OY.box (h:OY S0 W0 S W L T)(c:Array Value)(t:TypeId):OY S0 W0 S (W.alloc (.cells c t)) ((W.heap.size,c,t)::L) T:=h.fresh ((zR _ _).alloc (yR _) _) (yR _) (Blk.new _ _ _)
theorem OY.cellT (h:OY S0 W0 S W L T){c:Array Value}{e:TypeId}(hc:TB S W e c):OY S0 W0 (fun b=>S b∨b=W.heap.size) (W.alloc (.cells c e)) L T:=h.evo (Ev.alloc h.tw hc) ((zR _ _).alloc h.size _)
theorem OY.add (h:OY S0 W0 S W L T){e:TypeId}{v:Value}{n:Nat}(hv:SL S W e v n):OY S0 W0 S W L ((e,v,n)::T):=⟨h.o.add hv,h.bel⟩
theorem OY.tail (h:OY S0 W0 S W (p::L) T):OY S0 W0 S W L T:=⟨h.o.tail,h.bel⟩
theorem OY.tailT {q:TypeId×Value×Nat}(h:OY S0 W0 S W L (q::T)):OY S0 W0 S W L T:=⟨h.o.tailT,h.bel⟩
theorem OY.swap {q:Nat×Array Value×TypeId}(h:OY S0 W0 S W (p::q::L) T):OY S0 W0 S W (q::p::L) T:=⟨h.o.swap,h.bel⟩
theorem OY.set (h:OY S0 W0 S W ((B,c,t)::L) T)(i:Nat)(v:Value)(hc:c.setIfInBounds i v=c'):OY S0 W0 S (W.setCell ⟨B,i,none⟩ v) ((B,c',t)::L) T :=
 ⟨h.o.set i v hc,h.bel.grown (grown_set W B i v) h.size (fun q e=>by cases e;exact (h.o.bx _ (List.mem_cons_self ..)).2.2)⟩
theorem OY.put {v:Value}(h:OY S0 W0 S W ((B,c,t)::L) T)(hW:W'=W.setCell ⟨B,i,none⟩ v)(hc:c.setIfInBounds i v=c'):OY S0 W0 S W' ((B,c',t)::L) T:=hW▸h.set i v hc
theorem OY.b0 (h:OY S0 W0 S W ((B,c,t)::L) T):Blk W B c t:=h.o.b0
theorem OY.b1 (h:OY S0 W0 S W (p::(B,c,t)::L) T):Blk W B c t:=h.o.b1
theorem OY.b2 {p2:Nat×Array Value×TypeId}(h:OY S0 W0 S W (p::p2::(B,c,t)::L) T):Blk W B c t:=h.tail.b1
theorem OY.s0 {e:TypeId}{v:Value}{n:Nat}(h:OY S0 W0 S W L ((e,v,n)::T)):SL S W e v n:=h.o.s0
theorem OY.s1 {q:TypeId×Value×Nat}{e:TypeId}{v:Value}{n:Nat}(h:OY S0 W0 S W L (q::(e,v,n)::T)):SL S W e v n:=h.o.s1
theorem OY.s2 {q q2:TypeId×Value×Nat}{e:TypeId}{v:Value}{n:Nat}(h:OY S0 W0 S W L (q::q2::(e,v,n)::T)):SL S W e v n:=h.o.s2
theorem OY.s3 {q q2 q3:TypeId×Value×Nat}{e:TypeId}{v:Value}{n:Nat}(h:OY S0 W0 S W L (q::q2::q3::(e,v,n)::T)):SL S W e v n:=h.o.s3
theorem tw_below {U:BS}{n0:Nat}(hT:TW U W)(hb:Below n0 W W')(hU:∀b,U b→b<n0):TW U W':=fun b hu=>by
 obtain⟨c,e,hc,ht⟩:=hT b hu
 exact⟨c,e,hc.below hb (hU b hu),ht.mono (fun _ h=>h) (fun b' c' e' hb' hc'=>⟨c',hc'.below hb (hU b' hb'),rfl⟩)⟩
theorem sl_below {U:BS}{n0:Nat}(hb:Below n0 W W')(hU:∀b,U b→b<n0)(h:SL U W e v n):SL U W' e v n:=h.mono (fun _ h=>h) (fun b' c' e' hb' hc'=>⟨c',hc'.below hb (hU b' hb'),rfl⟩)
theorem OY.old (h:OY S0 W0 S W L T){U:BS}(hT:TW U W0):TW U W:=tw_below hT h.bel (fun b hb=>hT.lt hb)
theorem OY.oldS (h:OY S0 W0 S W L T){U:BS}(hT:TW U W0){v:Value}{n:Nat}(hs:SL U W0 e v n):SL U W e v n:=sl_below h.bel (fun b hb=>hT.lt hb) hs
theorem OY.evn (h:OY noB W0 S W L T)(he:Ev noB noB W S' W'):OY noB W0 (fun b=>S b∨S' b) W' L T:=by
 have hb:Below W.heap.size W W':=he.low
 have hS:∀b,S b→b<W.heap.size:=fun b hb=>h.tw.lt hb
 have h1:TW S W':=tw_below h.tw hb hS
 have hn:∀b,S' b→W.heap.size≤b:=fun b hb=>(he.new b hb).elim (fun h=>h.elim) id
 refine h.evo ⟨fun _ hb=> .inl hb,fun b hb=>hb.elim .inl (fun h=> .inr (hn b h)),he.os,he.tape,he.output,he.size,fun b hb' _ _=>hb.block b hb',fun b c e hb' hc=>⟨c,hc.below hb (hS b hb'),rfl⟩,fun b hb'=> ?_⟩ (hb.mono h.size)
 rcases hb' with hb'|hb'
 ·obtain⟨c,e,hc,ht⟩:=h1 b hb'
  exact⟨c,e,hc,ht.mono (fun _ h=> .inl h) (Shp.refl _ _)⟩
 ·obtain⟨c,e,hc,ht⟩:=he.ok b hb'
  exact⟨c,e,hc,ht.mono (fun _ h=> .inr h) (Shp.refl _ _)⟩
theorem sl_inr {S S':BS}(h:SL S' W e v n):SL (fun b=>S b∨S' b) W e v n:=h.mono (fun _ h=> .inr h) (Shp.refl _ _)
theorem OY.fin (h:OY S0 W0 S W L T):Nu S0 W0 S W:=⟨h.o.ev,h.bel⟩
theorem OY.store (h:OY S0 W0 S W L T){e:TypeId}{b off n cap s:Nat}(he:ET e s)(hv:SL S W e (.slice (some ⟨b,off,none⟩) n cap) n)(ho:Own W0.heap.size (.slice (some ⟨b,off,none⟩) n cap))(k i:Nat)(ct:CT)(hct:(cellsT e)[i]? =some ct)(u:Value)(hu:ct.ok S W u) :
 OY S0 W0 S (W.setCell ⟨b,off+k*s+i,none⟩ u) L T∧W.frozen? ⟨b,off+k*s+i,none⟩=false:=by
 obtain⟨h1,h2⟩:=SL.store (X:=noB) h.tw he hv k i ct hct u hu
 exact⟨h.evo h1 ((zR _ W).grown (grown_set W b _ u) h.size (fun q e=>by cases e;exact ho _ _ _ rfl)),h2⟩
theorem OY.append (h0:OY S0 W0 S W L T){o:Oper}{a:Act}{K:Act→World→Prop}{Q:Exit→Act→World→Prop}(sO xO:Operand)(t:TypeId)(ho:o.op= .call { callee:= .builtin .append,args:= #[sO,xO],argTypes:= #[t,t] })
 {e:TypeId} {s:Nat} (ht:prog.underlying t=some (.slice e)) (he:ET e s) {sv xv:Value} {n m:Nat} (hsv:a.eval sO=sv) (hv:SL S W e sv n) (hown:Own W0.heap.size sv) (hxv:a.eval xO=xv) (hx:SL S W e xv m) (hl:n+m≤1000000)
 (h:∀v' S' w',OY S0 W0 S' w' L ((e,v',n+m)::T)→Own W0.heap.size v'→K (a.put o.dst v') w'):Oper.wp prog o a W K Q:=by
 obtain⟨v',S',w',hr,h2,h3,h4,h5⟩:=append_twB (X:=noB) h0.tw (ty:=o.type) ht he hv hx hl h0.size hown
 unfold Oper.wp execOp
 simp only[ho,resolve,invoke,builtin,Sem.run_bind,Sem.run_pure,Result.andThen_ok,List.map_toArray,List.map_cons,List.map_nil,hsv,hxv,hr]
 exact h v' S' w' ((h0.evo h3 h4).add h2) h5
theorem OY.append_l (h0:OY S0 W0 S W L T){ops:Array Oper}{rest:List Oper}{o:Oper}{a:Act}{Q:Exit→Act→World→Prop}(hgd:o.guard=none)(sO xO:Operand)(t:TypeId)(ho:o.op= .call { callee:= .builtin .append,args:= #[sO,xO],argTypes:= #[t,t] })
 {e:TypeId} {s:Nat} (ht:prog.underlying t=some (.slice e)) (he:ET e s) {sv xv:Value} {n m:Nat} (hsv:a.eval sO=sv) (hv:SL S W e sv n) (hown:Own W0.heap.size sv) (hxv:a.eval xO=xv) (hx:SL S W e xv m) (hl:n+m≤1000000)
 (h:∀v' S' w',OY S0 W0 S' w' L ((e,v',n+m)::T)→Own W0.heap.size v'→wpList prog ops Q rest (a.put o.dst v') w'):wpList prog ops Q (o::rest) a W :=
 wpList_plain hgd fun _ hK=>h0.append sO xO t ho ht he hsv hv hown hxv hx hl fun v' S' w' h2 h3=>hK _ _ (h v' S' w' h2 h3)
theorem OY.append_f {U:BS}(h0:OY S0 W0 S W L T)(hU:TW U W){o:Oper}{a:Act}{K:Act→World→Prop}{Q:Exit→Act→World→Prop}(sO xO:Operand)(t:TypeId)(ho:o.op= .call { callee:= .builtin .append,args:= #[sO,xO],argTypes:= #[t,t] })
 {e:TypeId} {s:Nat} (ht:prog.underlying t=some (.slice e)) (he:ET e s) (hfl:∀ct∈cellsT e,ct.k≠3) {sv xv:Value} {n m:Nat} (hsv:a.eval sO=sv) (hv:SL S W e sv n) (hown:Own W0.heap.size sv) (hxv:a.eval xO=xv) (hx:SL U W e xv m) (hl:n+m≤1000000)
 (h:∀v' S' w',OY S0 W0 S' w' L ((e,v',n+m)::T)→Own W0.heap.size v'→Ev noB S W S' w'→K (a.put o.dst v') w'):Oper.wp prog o a W K Q:=by
 obtain⟨v',S',w',hr,h2,h3,h4,h5⟩:=append_flat (X:=noB) h0.tw hU (ty:=o.type) ht he hv hx hfl hl h0.size hown
 unfold Oper.wp execOp
 simp only[ho,resolve,invoke,builtin,Sem.run_bind,Sem.run_pure,Result.andThen_ok,List.map_toArray,List.map_cons,List.map_nil,hsv,hxv,hr]
 exact h v' S' w' ((h0.evo h3 h4).add h2) h5 h3
theorem OY.append_fl {U:BS}(h0:OY S0 W0 S W L T)(hU:TW U W){ops:Array Oper}{rest:List Oper}{o:Oper}{a:Act}{Q:Exit→Act→World→Prop}(hgd:o.guard=none)(sO xO:Operand)(t:TypeId)(ho:o.op= .call { callee:= .builtin .append,args:= #[sO,xO],argTypes:= #[t,t] })
 {e:TypeId} {s:Nat} (ht:prog.underlying t=some (.slice e)) (he:ET e s) (hfl:∀ct∈cellsT e,ct.k≠3) {sv xv:Value} {n m:Nat} (hsv:a.eval sO=sv) (hv:SL S W e sv n) (hown:Own W0.heap.size sv) (hxv:a.eval xO=xv) (hx:SL U W e xv m) (hl:n+m≤1000000)
 (h:∀v' S' w',OY S0 W0 S' w' L ((e,v',n+m)::T)→Own W0.heap.size v'→Ev noB S W S' w'→wpList prog ops Q rest (a.put o.dst v') w'):wpList prog ops Q (o::rest) a W :=
 wpList_plain hgd fun _ hK=>h0.append_f hU sO xO t ho ht he hfl hsv hv hown hxv hx hl fun v' S' w' h2 h3 h4=>hK _ _ (h v' S' w' h2 h3 h4)
theorem OY.append_n (h0:OY S0 W0 S W L T){ops:Array Oper}{rest:List Oper}{o:Oper}{a:Act}{Q:Exit→Act→World→Prop}(hgd:o.guard=none)(sO xO:Operand)(t:TypeId)(ho:o.op= .call { callee:= .builtin .append,args:= #[sO,xO],argTypes:= #[t,t] })
 {e:TypeId} {s:Nat} (ht:prog.underlying t=some (.slice e)) (he:ET e s) {v:Value} {n:Nat} (hsv:a.eval sO=v) (hv:SL S W e v n) (hown:Own W0.heap.size v) {H:Nat} (hxv:a.eval xO= .slice (some ⟨H,0,none⟩) 1 1) (hH:W.heap.size=H) {c:Array Value} (hc:TB S W e c) (hcs:c.size=s) (hl:n≤100000)
 (h:∀v' S' w',OY S0 W0 S' w' L ((e,v',n+1)::T)→Own W0.heap.size v'→wpList prog ops Q rest (a.put o.dst v') w'):wpList prog ops Q (o::rest) a (W.alloc (.cells c e)):=by
 subst hH
 have h1:=h0.cellT hc
 have hA:=Ev.alloc (X:=noB) h0.tw hc
 exact h1.append_l hgd sO xO t ho ht he hsv (hA.sl hv) hown hxv (SL.blk (.inr rfl) (Blk.new W c e) (by rw[he.size,hcs,Nat.one_mul];exact yR _)) (by omega) h
end
end
section
open Go.RowKit Go.Shelf
attribute [local go_sem] Oper.semAt_some
attribute [local go_sem ↓] Go.wp_at_zero Go.wp_at_succ
theorem OY.empty {S0 S:BS}{W0 W:World}{L:OwnL}{T:SlL}(h:OY S0 W0 S W L T)(e:TypeId):OY S0 W0 (fun b=>S b∨b=W.heap.size) (W.alloc (.cells #[] e)) L ((e,.slice (some ⟨W.heap.size,0,none⟩) 0 0,0)::T) :=
 (h.cellT tb_nil).add (SL.blk (.inr rfl) (Blk.new W #[] e) (by simp))
theorem own_at {n b k c:Nat}(h:n≤b)(o:Nat):Own n (.slice (some ⟨b,o,none⟩) k c):=fun a k' c' e=>by cases e;exact h
theorem flat_point:∀ct∈cellsT 26,ct.k≠3:=by decide
theorem flat_face:∀ct∈cellsT 140,ct.k≠3:=by decide
theorem line10_any (U:BS)(w:World)(hT:TW U w)(v:Value)(n:Nat)(hv:SL U w 26 v n)(hn:n≤1000) :
 Calls prog 136 #[v] w fun e w'=>∃S' v',e= .returned v'∧SL S' w' 26 v' n∧Ev noB noB w S' w':=by
 have ho:=(OY.init (TW.none w)).empty 26
 have hU1:=ho.old hT
 have hv1:=ho.oldS hT hv
 obtain⟨a,cap,rfl,-⟩:=hv.form
 go_enter func136,ntmps136
 go_wp2_with (first
  |(at_builtin;refine ho.append_fl hU1 (by rfl) _ _ 147 (by rfl) underlying147 et_point flat_point (by rfl) ho.s0 (own_at (yR _) _) (by rfl) hv1 (by omega) ?_;intro v9 S9 w9 ho9 hown9 _)
  |fail)
 go_ret
 refine⟨S9,_,rfl,?_,ho9.o.ev⟩
 have:=ho9.s0
 rwa [Nat.zero_add] at this
def MadeR (w:World)(e:Ending)(w':World):Prop :=
 ∃S' ev fv wv pv l,e= .returned (.agg #[ev,fv,wv,pv])∧((∃n,SL S' w' 206 ev n∧n≤30)∧(∃n,SL S' w' 140 fv n∧n≤200)∧(∃n,SL S' w' 149 wv n∧n≤100))∧l.length≤6∧PlsOk l∧w'.ownsRow w.heap.size 66 7 pv l.length (l.flatMap plE.enc)∧(∀g,pv.ownBlock=some g→¬S' g)∧Ev noB noB w S' w'
theorem made10v_any (lv:Value)(rows:List (Value×List Int))(w:World)(hM:Mat w.heap.size w lv rows) :
 Calls prog 30 #[lv] w fun e w'=>MadeR w e w':=by
 have hM0:=hM
 obtain⟨la,lcap,rfl,hlc,-⟩:=hM
 obtain⟨m,hm⟩:∃m,min rows.length 3=m:=⟨_,rfl⟩
 have hmI:min (rows.length:Int) 3=(m:Nat):=by omega
 have hm0:0≤(m:Int):=by omega
 have hmc:(m:Int)≤(lcap:Int):=by omega
 have hmn:m≤lcap:=by omega
 have ho:=((OW.init (TW.none w)).box mapZ 37).box mapZ 37
 have hb1:=ho.low
 have hM1:=((hM0.below hb1).mono hb1.size).take m (by omega)
 simp only[World.size_alloc] at ho
 replace hm:=Lib.hid hm
 go_enter func30,ntmps30
 go_upto_region 2 with fail
 refine wp_world (fun W1 hW1=> ?_)
 rw[←hW1] at ho hM1
 obtain⟨B2,hB2⟩:∃b,w.heap.size=b:=⟨_,rfl⟩
 obtain⟨B3,hB3⟩:∃b,w.heap.size+1=b:=⟨_,rfl⟩
 rw[hB3,hB2] at ho
 rw[hB3,hB2]
 have hl2:w.heap.size≤B2:=by omega
 clear hW1 hB2 hB3 hb1
 go_upto_region 3 with (first
  |(go_at_call 71;(with_reducible refine (made7_any _ _ W1 hM1).mono ?_);rintro e W2⟨S1,ev,fv,rfl,⟨ne,nf,hse,hne,hsf,hnf⟩,hev2⟩;obtain⟨ea,ec,rfl,-⟩:=hse.form;obtain⟨fa,fc,rfl,-⟩:=hsf.form;have ho2:=((ho.evo hev2).add hse).add hsf;obtain⟨z0,z1,z2,z3⟩:=cellsM4 ho2.b0;have zf0:=ho2.b0.frozen 0;have zf1:=ho2.b0.frozen 1)
  |fail)
 refine wp_world (fun W3 hW3=> ?_)
 have ho3:OW noB w S1 W3 [(B3,mapC (.slice ea ne ec) (.slice fa nf fc) (.slice none 0 0) (.slice none 0 0),37),(B2,mapZ,37)] [(140,.slice fa nf fc,nf),(206,.slice ea ne ec,ne)]:=by
  rw[hW3]
  exact (ho2.set 0 _ rfl).set 1 _ rfl
 clear ho ho2 hW3 z0 z1 z2 z3 zf0 zf1 hM1 hev2 hse hsf
 have hi3:=partV_ints (hM0.below ho3.low) 3
 have hp3:Calls prog 72 #[.slice la rows.length lcap,.int .i64 3] W3 fun e w'=>e= .returned (partV rows 3)∧W3=w':=part_eq _ W3 _ rows (hM0.below ho3.low) 3
 obtain⟨v3,hv3⟩:∃v,partV rows 3=v:=⟨_,rfl⟩
 obtain⟨x3,hx3⟩:∃v,partX rows 3=v:=⟨_,rfl⟩
 rw[hv3] at hi3 hp3
 rw[hx3] at hi3
 obtain⟨sa,sc,rfl⟩:∃a c,v3= .slice a x3.length c:=by
  obtain⟨⟨a,c,e,-⟩,-⟩:=hi3
  exact⟨a,c,e⟩
 clear hv3 hx3
 have hd:=ho3.draw ho3.lows (yR _) hi3
 go_upto_region 4 with (first
  |(go_at_call 72;(with_reducible refine hp3.mono ?_);rintro e W'⟨rfl,rfl⟩)
  |fail)
 refine wp_world (fun W4 hW4=> ?_)
 rw[←hW4] at hd
 have hDl:w.heap.size≤W3.heap.size:=ho3.low.size
 obtain⟨D,hD⟩:∃b,W3.heap.size=b:=⟨_,rfl⟩
 obtain⟨sv,hsv⟩:∃v,Value.slice sa x3.length sc=v:=⟨_,rfl⟩
 rw[hD,hsv] at hd
 rw[hD] at hDl
 rw[hD,hsv]
 clear hp3 hi3 ho3 hW4 hD hsv
 go_wp2_with fail
 go_loopw [5] (fun kk wr=>∃k:Nat,k≤nf∧kk= .int .i64 (k:Nat)∧DY w.heap.size D sv x3 noB w S1 wr [(B3,mapC (.slice ea ne ec) (.slice fa nf fc) (.slice none 0 0) (.slice none 0 0),37),(B2,mapZ,37)] [(140,.slice fa nf fc,nf),(206,.slice ea ne ec,ne)]) (fun kk _=>nf-(intOf kk).toNat)
 case atStart=>exact⟨0,Nat.zero_le _,rfl,hd⟩
 case round =>
  clear hd
  obtain⟨k,hk,rfl,hd⟩:=hrel
  by_cases hlt:k<nf
  ·have hltI:(k:Int)<(nf:Int):=by omega
   obtain⟨b,off,cap',hab,-,-⟩:=hd.s0.some_ (by omega)
   simp only[Value.slice.injEq,true_and] at hab
   obtain⟨rfl,rfl⟩:=hab
   obtain⟨m0,m1,m2,m3⟩:=cellsM4 hd.b0
   go_upto_region 8 with fail
   clear m0 m1 m2 m3
   have st1:Strs #[.string ⟨#[102,105,101,108,100]⟩,.string ⟨#[119,111,111,100]⟩,.string ⟨#[108,97,107,101]⟩]:=strs_of [⟨#[102,105,101,108,100]⟩,⟨#[119,111,111,100]⟩,⟨#[108,97,107,101]⟩] (by decide)
   go_upto_region 9 with (first
    |(go_at_call 73;(with_reducible refine ((hd.box _ _).call 3 (by omega) (by omega)).mono ?_);rintro e Wb⟨q,rfl,q0,q1,hb⟩;obtain⟨q,rfl⟩:=Int.eq_ofNat_of_zero_le q0;obtain⟨s1,cs1,hs1⟩:=st1.at_ hb.b0 (q:=q) (by simp;omega);have hdB:=hb.tail;obtain⟨u,cu,-⟩:=SL.cell hdB.tw et_face hdB.s0 hlt 1 .str rfl;obtain⟨hst,zf⟩:=SL.store (X:=noB) hdB.tw et_face hdB.s0 k 1 .str rfl (.string s1) (CT.ok_str hs1))
    |fail)
   refine wp_world (fun WC hWC=> ?_)
   have hdC:=hdB.evo hst
   rw[←hWC] at hdC
   clear hd hdB hb hWC zf cs1 st1 cu hst
   have st2:Strs #[.string ⟨#[]⟩,.string ⟨#[]⟩,.string ⟨#[]⟩,.string ⟨#[77,111,111,114]⟩,.string ⟨#[72,111,108,109]⟩,.string ⟨#[78,111,114,116,104,32,77,111,111,114]⟩]:=strs_of [⟨#[]⟩,⟨#[]⟩,⟨#[]⟩,⟨#[77,111,111,114]⟩,⟨#[72,111,108,109]⟩,⟨#[78,111,114,116,104,32,77,111,111,114]⟩] (by decide)
   go_upto_region 10 with (first
    |(go_at_call 73;(with_reducible refine ((hdC.box _ _).call 6 (by omega) (by omega)).mono ?_);rintro e Wd⟨q',rfl,q'0,q'1,hb⟩;obtain⟨q',rfl⟩:=Int.eq_ofNat_of_zero_le q'0;obtain⟨s2,cs2,hs2⟩:=st2.at_ hb.b0 (q:=q') (by simp;omega);have hdD:=hb.tail;obtain⟨u',cu,-⟩:=SL.cell hdD.tw et_face hdD.s0 hlt 2 .str rfl;obtain⟨hst,zf⟩:=SL.store (X:=noB) hdD.tw et_face hdD.s0 k 2 .str rfl (.string s2) (CT.ok_str hs2))
    |fail)
   refine wp_world (fun WE hWE=> ?_)
   have hdE:=hdD.evo hst
   rw[←hWE] at hdE
   clear hdC hdD hb hWE zf cs2 st2 cu hst
   go_upto_region 11 with (first
    |(go_at_call 73;(with_reducible refine (hdE.call 60 (by omega) (by omega)).mono ?_);rintro e Wf⟨t,rfl,t0,t1,hdF⟩;obtain⟨u2,cu,-⟩:=SL.cell hdF.tw et_face hdF.s0 hlt 3 .int rfl;obtain⟨hst,zf⟩:=SL.store (X:=noB) hdF.tw et_face hdF.s0 k 3 .int rfl (.int .i64 (1+t)) (CT.ok_int ⟨by omega,by omega⟩))
    |fail)
   refine wp_world (fun WG hWG=> ?_)
   have hdG:=hdF.evo hst
   rw[←hWG] at hdG
   clear hdE hdF hWG zf cu hst
   go_upto_region 6 with (first
    |(go_at_call 73;(with_reducible refine (hdG.call 4 (by omega) (by omega)).mono ?_);rintro e Wh⟨x,rfl,x0,x1,hdH⟩)
    |(go_at_call 73;(with_reducible refine (hdH.call 2 (by omega) (by omega)).mono ?_);rintro e Wi⟨y,rfl,y0,y1,hdI⟩;obtain⟨u3,cu,-⟩:=SL.cell hdI.tw et_face hdI.s0 hlt 4 .int rfl;obtain⟨-,zf⟩:=SL.store (X:=noB) hdI.tw et_face hdI.s0 k 4 .int rfl (.int .i64 0) (CT.ok_int ⟨by decide,by decide⟩))
    |fail)
   refine wp_world (fun WJ hWJ=> ?_)
   have hdJ:DY w.heap.size D sv x3 noB w S1 WJ [(B3,mapC (.slice ea ne ec) (.slice (some ⟨b,off,none⟩) nf fc) (.slice none 0 0) (.slice none 0 0),37),(B2,mapZ,37)] [(140,.slice (some ⟨b,off,none⟩) nf fc,nf),(206,.slice ea ne ec,ne)]:=by
    rw[hWJ]
    exact hdI.evo (SL.store (X:=noB) hdI.tw et_face hdI.s0 k 4 .int rfl _ (CT.ok_int (by first|with_reducible (first|exact fits_w64 _|exact fits_wrap _|assumption|exact fits_tmodN (by omega))|exact⟨by omega,by omega⟩))).1
   clear hdG hdH hdI hWJ zf cu
   go_wp2_with fail
   go_roundw
   case rel=>exact⟨k+1,by omega,by go_num,hdJ⟩
   case measure=>simp[intOf];omega
  ·have hge:¬(k:Int)<(nf:Int):=by omega
   obtain⟨m0,m1,m2,m3⟩:=cellsM4 hd.b0
   have ho:=hd.ow (TW.none w) hDl
   go_upto_region 12 with fail
   clear hd m0 m1 m2 m3 hlt hge
   have hi4:=partV_ints (hM0.below ho.low) 4
   have hp4:Calls prog 72 #[.slice la rows.length lcap,.int .i64 4] wr fun e w'=>e= .returned (partV rows 4)∧wr=w':=part_eq _ wr _ rows (hM0.below ho.low) 4
   go_upto_region 13 with (first
    |(go_at_call 72;(with_reducible refine hp4.mono ?_);rintro e W'⟨rfl,rfl⟩)
    |(go_at_call 74;(with_reducible refine (ways10_any _ S1 wr ho.tw ho.lows ho.low.size _ _ hi4).mono ?_);rintro e W5⟨S5,wv,rfl,⟨nw,hsw,hnw⟩,hev5⟩;obtain⟨wa,wc,rfl,-⟩:=hsw.form;have ho5:=(ho.evo hev5).add hsw;obtain⟨z0,z1,z2,z3⟩:=cellsM4 ho5.b0;have zf:=ho5.b0.frozen 2)
    |fail)
   refine wp_world (fun W6 hW6=> ?_)
   have ho6:=ho5.put hW6 (c':=mapC (.slice ea ne ec) (.slice fa nf fc) (.slice wa nw wc) (.slice none 0 0)) rfl
   clear ho ho5 hev5 hsw hW6 hi4 hp4 z0 z1 z2 z3 zf
   have hM6:=hM0.below ho6.low
   have hle6:=ho6.low.size
   obtain⟨m0,m1,m2,m3⟩:=cellsM4 ho6.b0
   first|with_reducible refine wp_region_grow_tail2 3 (by kernel_rfl) (by kernel_rfl) ?_|with_reducible refine wp_region_grow_tail 3 (by kernel_rfl) (by kernel_rfl) ?_
   simp only[List.take_succ_cons,List.take_zero,List.drop_succ_cons,List.drop_zero]
   repeat (first|go_big_quiet_step ((go_at_call 72;exact Calls.grow_of_same (part_eq w.heap.size _ _ rows (hM6.below ((Go.below_growBy _ _).mono hle6)) 5)))|quiet_step ((go_at_call 72;exact Calls.grow_of_same (part_eq w.heap.size _ _ rows (hM6.below ((Go.below_growBy _ _).mono hle6)) 5))))
   refine wpQuiet_nil ?_
   intro _ hw_
   obtain⟨p,hw_⟩:=hw_
   subst hw_
   have ho7:=ho6.up (Go.below_growBy W6 p)
   have hi5:=partV_ints (hM0.below ho7.low) 5
   clear m0 m1 m2 m3 ho6 hM6
   go_upto_region 14 with (first
    |(go_at_call 75;(with_reducible refine (places10v_any w.heap.size S5 _ ho7.tw ho7.lows ho7.low.size _ _ hi5 _ _ ne nf ho7.s2 (Nat.le_trans hne (by decide)) ho7.s1 hnf _ _ _ _ _ _).mono ?_);rintro e W8⟨S8,pv,l,rfl,hl6,hok,hr8,hof,hev8⟩;replace hr8:=ownsRow_base hr8 ho7.low.size;obtain⟨pa,pc,rfl,-⟩:=(lst_of_row plOk hr8 (by omega)).form;have ho8:=ho7.evo hev8;obtain⟨z0,z1,z2,z3⟩:=cellsM4 ho8.b0;have zf:=ho8.b0.frozen 3)
    |fail)
   refine wp_world (fun W9 hW9=> ?_)
   have hr9:W9.ownsRow w.heap.size 66 7 (.slice pa l.length pc) l.length (l.flatMap plE.enc):=by
    rw[hW9]
    exact hr8.kept (grown_set _ B3 3 _) (.inr (ownsRow_other hr8 ho8.b0 (by decide)))
   have ho9:=ho8.put hW9 (c':=mapC (.slice ea ne ec) (.slice fa nf fc) (.slice wa nw wc) (.slice pa l.length pc)) rfl
   clear ho7 ho8 hev8 hr8 hW9 hi5 z0 z1 z2 z3 zf
   obtain⟨z0,z1,z2,z3⟩:=cellsM4 ho9.b0
   obtain⟨y0,y1,y2,y3⟩:=cellsM4 ho9.b1
   have f0:=ho9.b1.frozen 0
   have f1:=ho9.b1.frozen 1
   have f2:=ho9.b1.frozen 2
   have f3:=ho9.b1.frozen 3
   have hoA:=ho9.swap
   have hrA:=hr9.kept (grown_set _ B2 0 (.slice ea ne ec)) (.inr (ownsRow_other hr9 hoA.b0 (by decide)))
   have hoB:=hoA.set 0 (.slice ea ne ec) rfl
   have hrB:=hrA.kept (grown_set _ B2 1 (.slice fa nf fc)) (.inr (ownsRow_other hrA hoB.b0 (by decide)))
   have hoC:=hoB.set 1 (.slice fa nf fc) rfl
   have hrC:=hrB.kept (grown_set _ B2 2 (.slice wa nw wc)) (.inr (ownsRow_other hrB hoC.b0 (by decide)))
   have hoD:=hoC.set 2 (.slice wa nw wc) rfl
   have hrD:=hrC.kept (grown_set _ B2 3 (.slice pa l.length pc)) (.inr (ownsRow_other hrC hoD.b0 (by decide)))
   have hoX:=hoD.set 3 (.slice pa l.length pc) (c':=mapC (.slice ea ne ec) (.slice fa nf fc) (.slice wa nw wc) (.slice pa l.length pc)) rfl
   clear ho9 hoA hoB hoC hoD hr9 hrA hrB hrC
   go_wp2_with fail
   exact bodyPost_ret (results_cell_row (by rfl) _ _ B2 37 _ (0,0) _ (by rfl) hoX.b0 underlying37 (by rfl) (by kernel_rfl)) rfl ⟨S8,_,_,_,_,l,rfl,⟨⟨ne,hoX.s2,hne⟩,⟨nf,hoX.s1,hnf⟩,⟨nw,hoX.s0,hnw⟩⟩,hl6,hok,hrD,hof,hoX.ev⟩
end
end Go.Proofs.YtfocdbjceedagaaGreatDoor
