/-
  Parts.
-/
import Derived.Test.YtfocdbjceedagaaGreatDoorXbf
set_option linter.unusedVariables false
set_option linter.unusedSimpArgs false
set_option maxHeartbeats 8000000
set_option maxRecDepth 100000
namespace Go.Proofs.YtfocdbjceedagaaGreatDoor
open Tryz
section
open Go.RowKit Go.Shelf
attribute [local go_sem] Oper.semAt_some
attribute [local go_sem ↓] Go.wp_at_zero Go.wp_at_succ
theorem Ev.join {g S':BS}{W W':World}(h:TW g W)(h3:Ev noB noB W S' W'):Ev noB g W (fun b=>g b∨S' b) W':=by
 have h1:=Ev.of_below (X:=noB) h h3.low;refine⟨fun b hb=> .inl hb,fun b hb=> ?_,h3.os,h3.tape,h3.output,h3.size,fun b hb _ _=>h3.rest b hb (fun h=>h) (fun h=>h),h1.shape,fun b hb=> ?_⟩
 ·rcases hb with hb|hb
  ·exact .inl hb
  ·rcases h3.new b hb with h2|h2
   ·exact h2.elim
   ·exact .inr h2
 ·rcases hb with hb|hb
  ·obtain⟨c,e,hc,ht⟩:=h1.ok b hb
   exact⟨c,e,hc,ht.mono (fun _ h=> .inl h) (Shp.refl _ _)⟩
  ·obtain⟨c,e,hc,ht⟩:=h3.ok b hb
   exact⟨c,e,hc,ht.mono (fun _ h=> .inr h) (Shp.refl _ _)⟩
structure Bx1 (w:World)(B:Nat)(c:Array Value)(t:TypeId)(S:BS)(W:World):Prop where
 ev:Ev noB noB w S W
 b:Blk W B c t
 n:¬S B
 l:w.heap.size≤B
theorem Bx1.evo {w W W':World}{B:Nat}{c:Array Value}{t:TypeId}{S S':BS}(h:Bx1 w B c t S W)(he:Ev noB S W S' W'):Bx1 w B c t S' W':=⟨h.ev.trans he,he.blk h.b h.n (fun h=>h),he.not h.b.lt h.n,h.l⟩
theorem Bx1.up {w W W':World}{B:Nat}{c:Array Value}{t:TypeId}{S:BS}(h:Bx1 w B c t S W)(hb:Below W.heap.size W W'):Bx1 w B c t S W':=h.evo (Ev.of_below h.ev.ok hb)
def FAt (B3:Nat)(ev:Value)(px py:Int)(i:Nat)(v:Value)(g:BS)(w:World):Prop :=
 match i with
 |0=>v=ev
 |1=>∃n,SL g w 249 v n∧n≤100
 |2=>v= .agg #[.int .i64 px,.int .i64 py]
 |3=>∃x b,v= .tuple #[.int .i64 x,.bool b]
 |4=>∃x,v= .int .i64 x
 |5=>∃b,v= .bool b
 |_=>False
theorem FAt.kept {B3:Nat}{ev:Value}{px py:Int}{i:Nat}{v:Value}{g g':BS}{w w':World}(h:FAt B3 ev px py i v g w)(hg:Ev noB g w g' w'):FAt B3 ev px py i v g' w':=by
 unfold FAt at *;split at h
 all_goals first|exact h|(obtain⟨n,h1,h2⟩:=h;exact⟨n,hg.sl h1,h2⟩)|(exact h)
theorem c6b (S:BS)(w:World)(hT:TW S w)(ev:Value)(m:Nat)(hse:SL S w 206 ev m)(hm:m≤100)(px py:Int)(fpx:a0k px)(fpy:a0k py) :
 Calls prog 134 #[ev,.agg #[.int .i64 px,.int .i64 py]] w fun e w'=>d3h e∧Below w.heap.size w w':=by
 go_enter func134,ntmps134;go_upto_region 1 with fail;have h0:Bx1 w w.heap.size #[.int .i64 px,.int .i64 py] 26 noB (w.alloc (.cells #[.int .i64 px,.int .i64 py] 26)):=⟨Ev.of_below (TW.none _) zC,Blk.new _ _ _,fun h=>h,yR _⟩;obtain⟨W1,hW1⟩:∃W,w.alloc (.cells #[.int .i64 px,.int .i64 py] 26)=W:=⟨_,rfl⟩;obtain⟨B3,hB3⟩:∃b,w.heap.size=b:=⟨_,rfl⟩;rw[hW1] at h0;rw[hW1];have h1:Bx1 w B3 #[.int .i64 px,.int .i64 py] 26 noB W1:=by rw[←hB3];exact h0
 rw[hB3];clear h0 hW1 hB3;refine Go.wp_region_reln 6 (by kernel_rfl) (by kernel_rfl) (fun _ g W=>Bx1 w B3 #[.int .i64 px,.int .i64 py] 26 g W) (fun g W g' W'=>Ev noB g W g' W') (FAt B3 ev px py) (fun _ _ _ _ _ _ h g=>h.kept g) noB (h1.evo (Ev.drew h1.ev.ok)) ?_ ?_
 ·intro i o hi ho c bb g W hc hM hA hD K hK
  match i,hi,ho with
  |0,_,ho =>
   cases ho;have f0:=a0a (v:=ev) (hA.at_ (k:=0) (by kernel_rfl));go_simp;exact hK (ev) g W rfl (Ev.refl hM.ev.ok) hM
  |1,_,ho =>
   cases ho;have f6:=a0a (v:=ev) (a0f hD 0 6 (by kernel_rfl) rfl rfl);go_simp;have hTW:=Ev.of_below (X:=noB) hT hM.ev.low;refine (c2q S W hTW.ok ev m (hTW.sl hse) hm).mono ?_;rintro e W'⟨S',v,rfl,⟨n,h1,h2⟩,h3⟩;go_simp;have hj:=Ev.join hM.ev.ok h3;exact hK v _ W' ⟨n,h1.mono (fun _ h=> .inr h) (Shp.refl _ _),h2⟩ hj (hM.evo hj)
  |2,_,ho =>
   cases ho;have f3:=a0a (v:= .pointer (some ⟨B3,0,none⟩)) (hA.at_ (k:=3) (by kernel_rfl));have z0:W.cell? ⟨B3,0,none⟩=some (.int .i64 px):=hM.b.cell 0;have z1:W.cell? ⟨B3,1,none⟩=some (.int .i64 py):=hM.b.cell 1;go_simp;exact hK (.agg #[.int .i64 px,.int .i64 py]) g W rfl (Ev.refl hM.ev.ok) hM
  |3,_,ho =>
   cases ho;have f7:=a0f hD 1 7 (by kernel_rfl) rfl rfl;have f8:=a0a (v:= .agg #[.int .i64 px,.int .i64 py]) (a0f hD 2 8 (by kernel_rfl) rfl rfl);obtain⟨n,h7,hn7⟩:=f7;obtain⟨tv,e7⟩:∃v,bb.eval (.tmp 7)=v:=⟨_,rfl⟩;rw[e7] at h7;have f7:=a0a e7;go_simp;refine (b7g g W hM.ev.ok tv n h7 hn7 px py fpx fpy).mono ?_;rintro e W'⟨⟨x,b,rfl⟩,hb⟩;go_simp;exact hK (.tuple #[.int .i64 x,.bool b]) g W' ⟨_,_,rfl⟩ (Ev.of_below hM.ev.ok hb) (hM.up hb)
  |4,_,ho =>
   cases ho;have f9:=a0f hD 3 9 (by kernel_rfl) rfl rfl;obtain⟨x,b,e9⟩:=f9;have f9:=a0a e9;go_simp;exact hK (.int .i64 x) g W ⟨_,rfl⟩ (Ev.refl hM.ev.ok) hM
  |5,_,ho =>
   cases ho;have f9:=a0f hD 3 9 (by kernel_rfl) rfl rfl;obtain⟨x,b,e9⟩:=f9;have f9:=a0a e9;go_simp;exact hK (.bool b) g W ⟨_,rfl⟩ (Ev.refl hM.ev.ok) hM
  |i+6,hi,_=>exact absurd hi (by omega)
 ·intro bb g W hM hA hall
  obtain⟨x,hP4⟩:=(show ∃x,bb.eval (.tmp 10)= .int .i64 x from hall 4 (by omega) _ _ rfl rfl);obtain⟨b,hP5⟩:=(show ∃b,bb.eval (.tmp 11)= .bool b from hall 5 (by omega) _ _ rfl rfl);have hfr:=hA.frame [T,T,T,T,T,T,F,F,F,F,F,F] _ rfl (by kernel_rfl);clear hall hA;obtain⟨f,hf⟩:∃f:Nat→Value,(fun k=>bb.tmps.getD k undef)=f:=⟨_,rfl⟩;have g10:f 10= .int .i64 x:=by rw[←hf,←hP4];rfl
  have g11:f 11= .bool b:=by rw[←hf,←hP5];rfl
  rw[hf] at hfr;clear hf hP4 hP5;subst hfr;simp only[a2k,g10,g11,Nat.reduceAdd];clear g10 g11;simp only[List.drop_succ_cons,List.drop_zero];go_wp2_with fail;go_ret2;exact⟨⟨_,_,rfl⟩,hM.ev.low⟩
theorem SL.face {S:BS}{W:World}{b off n cap:Nat}(hT:TW S W)(h:SL S W 140 (.slice (some ⟨b,off,none⟩) n cap) n){k:Nat}(hk:k<n):∃id d,W.cell? ⟨b,off+k*5,none⟩=some (.int .i64 id)∧W.cell? ⟨b,off+k*5+4,none⟩=some (.int .i64 d)∧a0k id∧a0k d:=by
 obtain⟨u0,c0,h0⟩:=h.cell hT a1m hk 0 .int rfl;obtain⟨u4,c4,h4⟩:=h.cell hT a1m hk 4 .int rfl;obtain⟨id,rfl,f0⟩:=h0.i rfl;obtain⟨d,rfl,f4⟩:=h4.i rfl;exact⟨id,d,c0,c4,f0,f4⟩
abbrev b4z (ev fv wv pv:Value):Array Value:= #[ev,fv,wv,pv]
theorem a9r (S:BS)(w:World)(hT:TW S w)(ea fa wa pa:Option Addr)(en ec wn wc pn pc fc:Nat)(n:Nat)(hsf:SL S w 140 (.slice fa n fc) n)(hn:n≤200)(id:Int) :
 Calls prog 135 #[.agg (b4z (.slice ea en ec) (.slice fa n fc) (.slice wa wn wc) (.slice pa pn pc)),.int .i64 id] w fun e w'=>(∃x,e= .returned (.int .i64 x)∧a0k x)∧Below w.heap.size w w':=by
 go_enter func135,ntmps135;go_wp2_with fail;have hb:Below w.heap.size w (w.alloc (.cells (b4z (.slice ea en ec) (.slice fa n fc) (.slice wa wn wc) (.slice pa pn pc)) 37)):=zC;have k1:=(Blk.new w (b4z (.slice ea en ec) (.slice fa n fc) (.slice wa wn wc) (.slice pa pn pc)) 37).cell 1;have hev:=Ev.of_below (X:=noB) hT hb;obtain⟨W1,hW1⟩:∃W,w.alloc (.cells (b4z (.slice ea en ec) (.slice fa n fc) (.slice wa wn wc) (.slice pa pn pc)) 37)=W:=⟨_,rfl⟩;obtain⟨B,hB⟩:∃b,w.heap.size=b:=⟨_,rfl⟩;rw[hW1] at hb hev k1;rw[hW1];have c1:W1.cell? ⟨B,1,none⟩=some (.slice fa n fc):=by rw[←hB];exact k1
 rw[hB];clear k1 hB hW1;have hsf1:=hev.sl hsf;go_loopw [5] (fun kk wr=>∃k:Nat,k≤n∧kk= .int .i64 (k:Nat)∧wr=W1) (fun kk _=>n-(intOf kk).toNat)
 case atStart=>exact⟨0,Nat.zero_le _,rfl,rfl⟩
 case round =>
  obtain⟨k,hk,rfl,rfl⟩:=hrel;by_cases hlt:k<n
  ·have hltI:(k:Int)<(n:Int):=by omega
   obtain⟨b,off,cap',hab,-,-⟩:=hsf.some_ (by omega);simp only[Value.slice.injEq,true_and] at hab;obtain⟨rfl,rfl⟩:=hab;obtain⟨q,d,c0,c4,fq,fd⟩:=SL.face hev.ok hsf1 hlt;by_cases hqi:q=id
   ·subst hqi
    go_wp2_with fail;go_ret;exact⟨⟨_,rfl,fd⟩,hb⟩
   ·have hqb:(q==id)=false:=by simpa using hqi
    go_wp2_with fail;go_roundw
    case rel=>exact⟨k+1,by omega,by go_num,by first|rfl|trivial⟩
    case measure=>simp[intOf];omega
  ·have hge:¬(k:Int)<(n:Int):=by omega
   go_wp2_with fail;go_ret;exact⟨⟨_,rfl,⟨by decide,by decide⟩⟩,hb⟩
theorem a1y (i j:Int)(w:World):Calls prog 133 #[.int .i64 i,.int .i64 j] w fun e w'=>(∃x y,e= .returned (.agg #[.int .i64 x,.int .i64 y])∧a0k x∧a0k y)∧Below w.heap.size w w':=by
 go_enter func133,ntmps133;go_wp2_with fail;have hk:=Blk.new w #[.int .i64 (wrap64 (55+wrap64 (80*i))),.int .i64 (wrap64 (65+wrap64 (70*j)))] 26;exact bodyPost_ret (results_cell_row (by rfl) _ _ _ 26 _ (0,0) _ (by rfl) hk underlying26 (by rfl) (by kernel_rfl)) rfl ⟨⟨_,_,rfl,a0j _,a0j _⟩,zC⟩
abbrev a8t:=List (Nat×Array Value×TypeId)
abbrev SlL:=List (TypeId×Value×Nat)
structure DY (n₀ D:Nat)(sv:Value)(xs:List Int)(S0:BS)(W0:World)(S:BS)(W:World)(L:a8t)(T:SlL):Prop where
 st:ST n₀ D sv xs S0 W0 S W
 bx:∀p∈L,Blk W p.1 p.2.1 p.2.2∧¬S p.1∧p.1≠D∧W0.heap.size≤p.1
 ne:(L.map (·.1)).Nodup
 sl:∀q∈T,SL S W q.1 q.2.1 q.2.2
section
variable {n₀ D:Nat}{sv:Value}{xs:List Int}{S0 S S':BS}{W0 W W':World}{L:a8t}{T:SlL}{B B2 B3:Nat}{c c2 c3:Array Value}{t t2 t3:TypeId}{p:Nat×Array Value×TypeId}
theorem TD.dw (h:TD S n₀ D sv xs W):DY n₀ D sv xs S W S W [] []:=⟨h.st,fun _ h=>by simp at h,by simp,fun _ h=>by simp at h⟩
theorem DY.evo (h:DY n₀ D sv xs S0 W0 S W L T)(he:Ev noB S W S' W'):DY n₀ D sv xs S0 W0 S' W' L T :=
 ⟨h.st.evo he,fun p hp=>by obtain⟨h1,h2,h3,h4⟩:=h.bx p hp;exact⟨he.blk h1 h2 (fun h=>h),he.not h1.lt h2,h3,h4⟩,h.ne,fun q hq=>he.sl (h.sl q hq)⟩
theorem DY.up (h:DY n₀ D sv xs S0 W0 S W L T)(hb:Below W.heap.size W W'):DY n₀ D sv xs S0 W0 S W' L T:=h.evo (Ev.of_below h.st.td.tw hb)
theorem DY.fresh (h:DY n₀ D sv xs S0 W0 S W L T)(hb:Below W.heap.size W W')(hB:W.heap.size≤B)(hk:Blk W' B c t):DY n₀ D sv xs S0 W0 S W' ((B,c,t)::L) T:=by
 have h1:=h.up hb;refine⟨h1.st,fun p hp=> ?_,?_,h1.sl⟩
 ·rcases List.mem_cons.1 hp with rfl|hp
  ·exact⟨hk,fun hs=>by have:=h.st.td.tw.lt hs;omega,fun e=>by have:=h.st.td.lt;simp at e;omega,Nat.le_trans h.st.ev.size hB⟩
  ·exact h1.bx p hp
 ·rw[List.map_cons,List.nodup_cons]
  refine⟨fun hm=> ?_,h.ne⟩;obtain⟨p,hp,hpe⟩:=List.mem_map.1 hm;have h2:=(h.bx p hp).1.lt;simp only at hpe;omega
theorem DY.box (h:DY n₀ D sv xs S0 W0 S W L T)(c:Array Value)(t:TypeId):DY n₀ D sv xs S0 W0 S (W.alloc (.cells c t)) ((W.heap.size,c,t)::L) T:=h.fresh ((zR _ _).alloc (yR _) _) (yR _) (Blk.new _ _ _)
theorem DY.cellT (h:DY n₀ D sv xs S0 W0 S W L T){c:Array Value}{e:TypeId}(hc:TB S W e c):DY n₀ D sv xs S0 W0 (fun b=>S b∨b=W.heap.size) (W.alloc (.cells c e)) L T:=h.evo (Ev.alloc h.st.td.tw hc)
theorem DY.add (h:DY n₀ D sv xs S0 W0 S W L T){e:TypeId}{v:Value}{n:Nat}(hv:SL S W e v n):DY n₀ D sv xs S0 W0 S W L ((e,v,n)::T):=⟨h.st,h.bx,h.ne,fun q hq=>by
 rcases List.mem_cons.1 hq with rfl|hq
 ·exact hv
 ·exact h.sl q hq⟩
theorem DY.tail (h:DY n₀ D sv xs S0 W0 S W (p::L) T):DY n₀ D sv xs S0 W0 S W L T:=⟨h.st,fun q hq=>h.bx q (List.mem_cons_of_mem _ hq),(List.nodup_cons.1 h.ne).2,h.sl⟩
theorem DY.tailT {q:TypeId×Value×Nat}(h:DY n₀ D sv xs S0 W0 S W L (q::T)):DY n₀ D sv xs S0 W0 S W L T:=⟨h.st,h.bx,h.ne,fun q hq=>h.sl q (List.mem_cons_of_mem _ hq)⟩
theorem DY.swap {q:Nat×Array Value×TypeId}(h:DY n₀ D sv xs S0 W0 S W (p::q::L) T):DY n₀ D sv xs S0 W0 S W (q::p::L) T:=⟨h.st,fun r hr=>h.bx r (by
 simp only[List.mem_cons] at hr ⊢;rcases hr with h|h|h
 ·exact .inr (.inl h)
 ·exact .inl h
 ·exact .inr (.inr h)),by
  have:=h.ne;simp only[List.map_cons,List.nodup_cons,List.mem_cons,not_or] at this ⊢;exact⟨⟨fun e=>this.1.1 e.symm,this.2.1⟩,this.1.2,this.2.2⟩,h.sl⟩
theorem DY.call (h:DY n₀ D sv xs S0 W0 S W L T)(m:Int)(hm1:1≤m)(hm2:m≤4611686018427387904) :
 Calls prog 73 #[.pointer (some ⟨D,0,none⟩),.int .i64 m] W fun e W'=>∃v,e= .returned (.int .i64 v)∧0≤v∧v<m∧DY n₀ D sv xs S0 W0 S W' L T:=by
 refine (h.st.call m hm1 hm2).mono ?_;rintro e W'⟨v,rfl,h0,h1,h2,hg,h3⟩;exact⟨v,rfl,h0,h1,⟨h2,fun p hp=>by
  obtain⟨k1,k2,k3,k4⟩:=h.bx p hp;exact⟨k1.kept hg (fun e=>k3 (Option.some.inj e).symm),k2,k3,k4⟩,h.ne,fun q hq=>h3.sl (h.sl q hq)⟩⟩
theorem DY.write (h:DY n₀ D sv xs S0 W0 S W ((B,c,t)::L) T)(hg:W.grownBy W' (some B))(hk:Blk W' B c2 t2):DY n₀ D sv xs S0 W0 S W' ((B,c2,t2)::L) T:=by
 obtain⟨hB1,hB2,hB3,hB4⟩:=h.bx _ (List.mem_cons_self ..);have hsame:∀b,b≠B→b<W.heap.size→W'.heap[b]? =W.heap[b]? :=fun b hb hl=>hg.block b hl (fun e=>hb (Option.some.inj e))
 have hev:=h.st.ev.own hg (fun r e=>by cases e;exact⟨hB2,hB4⟩);have hlt:=h.st.td.lt;have hlo:=h.st.lo;obtain⟨j,hj,hb⟩:=h.st.td.box;have hbel:Below n₀ W W':=Below.of_grown hg (by have:=h.st.td.le;omega) (fun q e=>by cases e;simp only at hB4;omega);have hsh:Shp S W W':=fun b c e hb hc=>⟨c,(hsame b (fun e=>hB2 (by subst e;exact hb)) hc.lt).trans hc,rfl⟩
 refine⟨⟨⟨hev.ok,⟨j,hj,hb.kept hg (fun e=>hB3 (Option.some.inj e))⟩,h.st.td.ints.below hbel,h.st.td.le,h.st.td.len,h.st.td.low,h.st.td.not⟩,hev,hlo⟩,fun p hp=> ?_,?_,fun q hq=>(h.sl q hq).mono (fun _ h=>h) hsh⟩
 ·rcases List.mem_cons.1 hp with rfl|hp'
  ·exact⟨hk,hB2,hB3,hB4⟩
  ·obtain⟨k1,k2,k3,k4⟩:=h.bx p (List.mem_cons_of_mem _ hp')
   refine⟨k1.kept hg (fun e=> ?_),k2,k3,k4⟩;have:=h.ne;rw[List.map_cons,List.nodup_cons] at this;exact this.1 (List.mem_map.2 ⟨p,hp',(Option.some.inj e).symm⟩)
 ·exact h.ne
theorem DY.set (h:DY n₀ D sv xs S0 W0 S W ((B,c,t)::L) T)(i:Nat)(v:Value){c':Array Value}(hc:c.setIfInBounds i v=c'):DY n₀ D sv xs S0 W0 S (W.setCell ⟨B,i,none⟩ v) ((B,c',t)::L) T :=
 h.write (a1g W B i v) (hc▸(h.bx _ (List.mem_cons_self ..)).1.set i v)
theorem DY.b0 (h:DY n₀ D sv xs S0 W0 S W ((B,c,t)::L) T):Blk W B c t:=(h.bx _ (List.mem_cons_self ..)).1
theorem DY.b1 (h:DY n₀ D sv xs S0 W0 S W (p::(B,c,t)::L) T):Blk W B c t:=h.tail.b0
theorem DY.b2 {p2:Nat×Array Value×TypeId}(h:DY n₀ D sv xs S0 W0 S W (p::p2::(B,c,t)::L) T):Blk W B c t:=h.tail.tail.b0
theorem DY.b3 {p2 p3:Nat×Array Value×TypeId}(h:DY n₀ D sv xs S0 W0 S W (p::p2::p3::(B,c,t)::L) T):Blk W B c t:=h.tail.tail.tail.b0
theorem DY.s0 {e:TypeId}{v:Value}{n:Nat}(h:DY n₀ D sv xs S0 W0 S W L ((e,v,n)::T)):SL S W e v n:=h.sl _ (List.mem_cons_self ..)
theorem DY.s1 {q:TypeId×Value×Nat}{e:TypeId}{v:Value}{n:Nat}(h:DY n₀ D sv xs S0 W0 S W L (q::(e,v,n)::T)):SL S W e v n:=h.tailT.s0
theorem DY.td (h:DY n₀ D sv xs S0 W0 S W L T):TD S n₀ D sv xs W:=h.st.td
theorem DY.tw (h:DY n₀ D sv xs S0 W0 S W L T):TW S W:=h.st.td.tw
theorem DY.then_ (h:DY n₀ D sv xs S0 W0 S W L T)(h1:TD S' n₀ D sv xs W')(h2:Ev (a9j D) S W S' W'):DY n₀ D sv xs S0 W0 S' W' L T :=
 ⟨h.st.then_ h1 h2,fun p hp=>by
  obtain⟨k1,k2,k3,k4⟩:=h.bx p hp;exact⟨h2.blk k1 k2 k3,h2.not k1.lt k2,k3,k4⟩,h.ne,fun q hq=>h2.sl (h.sl q hq)⟩
end
def Strs (c:Array Value):Prop:=∀u∈c.toList,∃s,u= .string s∧s.size≤30
theorem a5z (l:List ByteArray)(h:l.all (fun s=>decide (s.size≤30))=true):Strs (l.map Value.string).toArray:=fun u hu=>by
 simp only[List.mem_map] at hu;obtain⟨s,hs,rfl⟩:=hu;exact⟨s,rfl,of_decide_eq_true (List.all_eq_true.1 h s hs)⟩
theorem Strs.at_ {W:World}{B:Nat}{c:Array Value}{t:TypeId}(hs:Strs c)(h:Blk W B c t){q:Nat}(hq:q<c.size):∃s,W.cell? ⟨B,q,none⟩=some (.string s)∧s.size≤30:=by
 obtain⟨s,hx,h2⟩:=hs (c[q]'hq) (by simp);exact⟨s,by rw[h.cell,Array.getElem?_eq_getElem hq,hx],h2⟩
theorem a3u {W:World}{B:Nat}{a b c d e f g i:Value}{t:TypeId}(h:Blk W B #[a,b,c,d,e,f,g,i] t):W.cell? ⟨B,0,none⟩=some a∧W.cell? ⟨B,1,none⟩=some b∧W.cell? ⟨B,2,none⟩=some c∧W.cell? ⟨B,3,none⟩=some d∧W.cell? ⟨B,4,none⟩=some e∧W.cell? ⟨B,5,none⟩=some f∧W.cell? ⟨B,6,none⟩=some g∧W.cell? ⟨B,7,none⟩=some i :=
 ⟨h.cell 0,h.cell 1,h.cell 2,h.cell 3,h.cell 4,h.cell 5,h.cell 6,h.cell 7⟩
theorem a6t {W:World}{B:Nat}{a b c d e f g:Value}{t:TypeId}(h:Blk W B #[a,b,c,d,e,f,g] t):W.cell? ⟨B,0,none⟩=some a∧W.cell? ⟨B,1,none⟩=some b∧W.cell? ⟨B,2,none⟩=some c∧W.cell? ⟨B,3,none⟩=some d∧W.cell? ⟨B,4,none⟩=some e∧W.cell? ⟨B,5,none⟩=some f∧W.cell? ⟨B,6,none⟩=some g :=
 ⟨h.cell 0,h.cell 1,h.cell 2,h.cell 3,h.cell 4,h.cell 5,h.cell 6⟩
theorem a0l {W:World}{B:Nat}{a b c d:Value}{t:TypeId}(h:Blk W B #[a,b,c,d] t):W.cell? ⟨B,0,none⟩=some a∧W.cell? ⟨B,1,none⟩=some b∧W.cell? ⟨B,2,none⟩=some c∧W.cell? ⟨B,3,none⟩=some d :=
 ⟨h.cell 0,h.cell 1,h.cell 2,h.cell 3⟩
abbrev b7h (id:Int)(lv:Value)(lev:Int)(cs ns:ByteArray)(st:Bool)(wt ds:Int):Array Value:= #[.int .i64 id,lv,.int .i64 lev,.string cs,.string ns,.bool st,.int .i64 wt,.int .i64 ds]
abbrev d0l (id x y:Int)(cs ns:ByteArray)(wt ds:Int):Array Value:= #[.int .i64 id,.int .i64 x,.int .i64 y,.string cs,.string ns,.int .i64 wt,.int .i64 ds]
theorem c6c {S:BS}{W:World}{id lev wt ds:Int}{cs ns:ByteArray}{st:Bool}{v:Value}{n:Nat}(h0:a0k id)(h2:a0k lev)(h3:cs.size≤30)(h4:ns.size≤30)(h6:a0k wt)(h7:a0k ds)(hv:SL S W 26 v n)(hn:n≤100):TB S W 149 (b7h id v lev cs ns st wt ds):=b9f rfl rfl fun i u ct k1 k2=>by
 match i,k1,k2 with
 |0,k1,k2=>cases k1;cases k2;exact CT.ok_int h0
 |1,k1,k2=>cases k1;cases k2;exact CT.ok_sl hv hn
 |2,k1,k2=>cases k1;cases k2;exact CT.ok_int h2
 |3,k1,k2=>cases k1;cases k2;exact CT.ok_str h3
 |4,k1,k2=>cases k1;cases k2;exact CT.ok_str h4
 |5,k1,k2=>cases k1;cases k2;exact CT.ok_bool _
 |6,k1,k2=>cases k1;cases k2;exact CT.ok_int h6
 |7,k1,k2=>cases k1;cases k2;exact CT.ok_int h7
 |i+8,k1,_=>simp at k1
theorem DY.pt0 {n₀ D:Nat}{sv:Value}{xs:List Int}{S0 S:BS}{W0 W:World}{L:a8t}{T:SlL}{B:Nat}{X Y X':Int}{t:TypeId}(h:DY n₀ D sv xs S0 W0 S W ((B,#[.int .i64 X,.int .i64 Y],t)::L) T)(f:a0k X'):∃X7,a0k X7∧DY n₀ D sv xs S0 W0 S (W.setCell ⟨B,0,none⟩ (.int .i64 X')) ((B,#[.int .i64 X7,.int .i64 Y],t)::L) T :=
 ⟨X',f,h.set 0 _ (by simp)⟩
theorem DY.pt1 {n₀ D:Nat}{sv:Value}{xs:List Int}{S0 S:BS}{W0 W:World}{L:a8t}{T:SlL}{B:Nat}{X Y Y':Int}{t:TypeId}(h:DY n₀ D sv xs S0 W0 S W ((B,#[.int .i64 X,.int .i64 Y],t)::L) T)(f:a0k Y'):∃Y7,a0k Y7∧DY n₀ D sv xs S0 W0 S (W.setCell ⟨B,1,none⟩ (.int .i64 Y')) ((B,#[.int .i64 X,.int .i64 Y7],t)::L) T :=
 ⟨Y',f,h.set 1 _ (by simp)⟩
theorem DY.put {n₀ D:Nat}{sv:Value}{xs:List Int}{S0 S:BS}{W0 W W':World}{L:a8t}{T:SlL}{B i:Nat}{c c':Array Value}{v:Value}{t:TypeId}(h:DY n₀ D sv xs S0 W0 S W ((B,c,t)::L) T)(hW:W'=W.setCell ⟨B,i,none⟩ v)(hc:c.setIfInBounds i v=c'):DY n₀ D sv xs S0 W0 S W' ((B,c',t)::L) T:=hW▸h.set i v hc
theorem DY.wd {n₀ D:Nat}{sv:Value}{xs:List Int}{S0 S:BS}{W0 W W':World}{L:a8t}{T:SlL}{B:Nat}{id lev wt d:Int}{lv:Value}{cs ns:ByteArray}{st:Bool}{t:TypeId}(h:DY n₀ D sv xs S0 W0 S W ((B,b7h id lv lev cs ns st wt 0,t)::L) T)(hW:W'=W.setCell ⟨B,7,none⟩ (.int .i64 d))(f:a0k d):∃d7,a0k d7∧DY n₀ D sv xs S0 W0 S W' ((B,b7h id lv lev cs ns st wt d7,t)::L) T :=
 ⟨d,f,h.put hW rfl⟩
def FWy (wr:World)(B6 B7 k M:Nat)(ax ay bx by_:Int)(i:Nat)(v:Value)(w:World):Prop :=
 match i with
 |0=>v= .pointer (some ⟨B6,0,none⟩)
 |1=>v= .int .i64 ax
 |2=>v= .pointer (some ⟨B7,0,none⟩)
 |3=>v= .int .i64 bx
 |4=>v= .pointer (some ⟨B6,0,none⟩)
 |5=>v= .int .i64 ax
 |6=>∃x,v= .int .i64 x∧a0k x
 |7=>v= .int .i64 (k:Nat)
 |8=>∃x,v= .int .i64 x∧a0k x
 |9=>v= .int .i64 (M:Nat)
 |10=>v= .int .i64 ((M:Nat)+1)
 |11=>∃x,v= .int .i64 x∧a0k x
 |12=>∃x,v= .int .i64 x∧a0k x
 |13=>v= .pointer (some ⟨B6,1,none⟩)
 |14=>v= .int .i64 ay
 |15=>v= .pointer (some ⟨B7,1,none⟩)
 |16=>v= .int .i64 by_
 |17=>v= .pointer (some ⟨B6,1,none⟩)
 |18=>v= .int .i64 ay
 |19=>∃x,v= .int .i64 x∧a0k x
 |20=>v= .int .i64 (k:Nat)
 |21=>∃x,v= .int .i64 x∧a0k x
 |22=>v= .int .i64 (M:Nat)
 |23=>v= .int .i64 ((M:Nat)+1)
 |24=>∃x,v= .int .i64 x∧a0k x
 |25=>∃x,v= .int .i64 x∧a0k x
 |26=>∃X Y,v= .agg #[.int .i64 X,.int .i64 Y]∧a0k X∧a0k Y
 |27=>∃B,v= .pointer (some ⟨B,0,none⟩)∧wr.heap.size≤B∧Blk w B #[.int .i64 0,.int .i64 0] 26
 |_=>False
theorem FWy.kept {wr:World}{B6 B7 k M:Nat}{ax ay bx by_:Int}{i:Nat}{v:Value}{w w':World}(h:FWy wr B6 B7 k M ax ay bx by_ i v w)(hg:Below w.heap.size w w'):FWy wr B6 B7 k M ax ay bx by_ i v w':=by
 unfold FWy at *;split at h
 all_goals first|exact h|(exact h)|(obtain⟨B,h1,h2,h3⟩:=h;exact⟨B,h1,h2,h3.below hg h3.lt⟩)
def d5b (n₀ D:Nat)(sv:Value)(xs:List Int)(S:BS)(w:World)(m M BW B6 B7:Nat)(lev ax ay bx by_:Int)(ov kk:Value)(wr:World):Prop :=
 ∃(k:Nat) (S':BS) (lv:Value) (n:Nat),1≤k∧k≤M+1∧kk= .int .i64 (k:Nat)∧n≤k∧DY n₀ D sv xs S w S' wr [(BW,b7h (41+m) lv lev ⟨#[]⟩ ⟨#[]⟩ false 0 0,149),(B6,#[.int .i64 ax,.int .i64 ay],26),(B7,#[.int .i64 bx,.int .i64 by_],26)] [(26,lv,n),(149,ov,m)]
theorem a6a (n₀ D:Nat)(sv:Value)(xs:List Int)(S:BS)(w:World)(h:TD S n₀ D sv xs w)(ov:Value)(m:Nat)(hso:SL S w 149 ov m)(hm:m≤100)(ax ay bx by_ lev:Int)(fa:a0k ax)(fb:a0k ay)(fc:a0k bx)(fd:a0k by_)(fl:a0k lev) :
 Calls prog 132 #[ov,.agg #[.int .i64 ax,.int .i64 ay],.agg #[.int .i64 bx,.int .i64 by_],.int .i64 lev,.pointer (some ⟨D,0,none⟩)] w fun e w'=>∃S' v,e= .returned v∧SL S' w' 149 v (m+1)∧TD S' n₀ D sv xs w'∧Ev (a9j D) S w S' w':=by
 obtain⟨oa,oc,rfl,hoc⟩:=hso.form;go_enter func132,ntmps132;go_upto_region 2 with fail;refine a0g (fun W1 hW1=> ?_);obtain⟨B6,hB6⟩:∃b,w.heap.size=b:=⟨_,rfl⟩;obtain⟨B7,hB7⟩:∃b,w.heap.size+1=b:=⟨_,rfl⟩;obtain⟨BL,hBL⟩:∃b,w.heap.size+1+1=b:=⟨_,rfl⟩;obtain⟨BW,hBW⟩:∃b,w.heap.size+1+1+1=b:=⟨_,rfl⟩;obtain⟨S1,hd⟩:∃S1,DY n₀ D sv xs S w S1 W1 [(BW,b7h (41+m) (.slice (some ⟨BL,0,none⟩) 1 1) lev ⟨#[]⟩ ⟨#[]⟩ false 0 0,149),(B6,#[.int .i64 ax,.int .i64 ay],26),(B7,#[.int .i64 bx,.int .i64 by_],26)] [(26,.slice (some ⟨BL,0,none⟩) 1 1,1),(149,.slice oa m oc,m)]:=by
  have h1:=((((h.dw.add hso).box #[.int .i64 ax,.int .i64 ay] 26).box #[.int .i64 bx,.int .i64 by_] 26).swap.cellT (a3r fa fb));have h2:=(h1.add (SL.blk (.inr rfl) (Blk.new _ _ _) (by show 1*2≤2;omega))).box (b7h (41+m) (.slice (some ⟨BL,0,none⟩) 1 1) lev ⟨#[]⟩ ⟨#[]⟩ false 0 0) 149;simp only[World.size_alloc] at h2;rw[hBW,hBL,hB7,hB6] at h2;rw[hW1,hBL];exact⟨_,h2⟩
 rw[hBW,hBL,hB7,hB6];clear hW1 hBW hBL hB7 hB6;obtain⟨lv,hlv⟩:∃v,Value.slice (some ⟨BL,0,none⟩) 1 1=v:=⟨_,rfl⟩;rw[hlv] at hd;clear hlv;go_wp2_with (first
  |(go_at_call 73;(with_reducible refine (hd.call 3 (by omega) (by omega)).mono ?_);rintro e W2⟨many,rfl,m0,m1,hd2⟩)
  |fail)
 obtain⟨M,rfl⟩:∃M:Nat,many=M:=⟨many.toNat,by omega⟩;go_loopw [13] (fun kk wr=>d5b n₀ D sv xs S w m M BW B6 B7 lev ax ay bx by_ (.slice oa m oc) kk wr) (fun kk _=>M+1-(intOf kk).toNat)
 case atStart=>exact⟨1,S1,lv,1,by omega,by omega,rfl,by omega,hd2⟩
 case round =>
  clear hd hd2 lv;obtain⟨ov,hov⟩:∃v,Value.slice oa m oc=v:=⟨_,rfl⟩;rw[hov] at hrel;rw[hov];obtain⟨k,S',lv,n,hk1,hkM,rfl,hn,hd⟩:=hrel;by_cases hlt:k≤M
  ·have hltI:(k:Int)≤(M:Int):=by omega
   have hM0:¬(M:Int)+1=0:=by omega
   have hMw:IntKind.i64.wrap ((M:Int)+1)=M+1:=a0u (by omega) (by omega);have k6:=hd.b1;have k7:=hd.b2;obtain⟨la,lc,rfl,-⟩:=hd.s0.form;obtain⟨lv,hlv⟩:∃v,Value.slice la n lc=v:=⟨_,rfl⟩;rw[hlv] at hd;go_upto_region 6 with fail;refine Go.wp_region_rel 28 (by kernel_rfl) (by kernel_rfl) (fun _ W=>WG7 wr B6 B7 ax ay bx by_ W) (fun w w'=>Below w.heap.size w w') (FWy wr B6 B7 k M ax ay bx by_) (fun _ _ _ _ h g=>h.kept g) ⟨(zR _ _).drew,k6.drew,k7.drew⟩ ?_ ?_
   ·clear hd k6 k7 h hso
    intro i o hi ho c bb W hc hM hA hD K hK;match i,hi,ho with
    |0,_,ho =>
     cases ho;have f6:=a0a (v:= .pointer (some ⟨B6,0,none⟩)) (hA.at_ (k:=6) (by kernel_rfl));go_simp;exact hK (.pointer (some ⟨B6,0,none⟩)) W rfl (zR _ _) hM
    |1,_,ho =>
     cases ho;have f30:=a0a (v:= .pointer (some ⟨B6,0,none⟩)) (a0i hD 0 30 (by kernel_rfl) rfl rfl);have z0:W.cell? ⟨B6,0,none⟩=some (.int .i64 ax):=hM.a.cell 0;go_simp;exact hK (.int .i64 ax) W rfl (zR _ _) hM
    |2,_,ho =>
     cases ho;have f7:=a0a (v:= .pointer (some ⟨B7,0,none⟩)) (hA.at_ (k:=7) (by kernel_rfl));go_simp;exact hK (.pointer (some ⟨B7,0,none⟩)) W rfl (zR _ _) hM
    |3,_,ho =>
     cases ho;have f32:=a0a (v:= .pointer (some ⟨B7,0,none⟩)) (a0i hD 2 32 (by kernel_rfl) rfl rfl);have z0:W.cell? ⟨B7,0,none⟩=some (.int .i64 bx):=hM.u.cell 0;go_simp;exact hK (.int .i64 bx) W rfl (zR _ _) hM
    |4,_,ho =>
     cases ho;have f6:=a0a (v:= .pointer (some ⟨B6,0,none⟩)) (hA.at_ (k:=6) (by kernel_rfl));go_simp;exact hK (.pointer (some ⟨B6,0,none⟩)) W rfl (zR _ _) hM
    |5,_,ho =>
     cases ho;have f34:=a0a (v:= .pointer (some ⟨B6,0,none⟩)) (a0i hD 4 34 (by kernel_rfl) rfl rfl);have z0:W.cell? ⟨B6,0,none⟩=some (.int .i64 ax):=hM.a.cell 0;go_simp;exact hK (.int .i64 ax) W rfl (zR _ _) hM
    |6,_,ho =>
     cases ho;have f33:=a0a (v:= .int .i64 bx) (a0i hD 3 33 (by kernel_rfl) rfl rfl);have f35:=a0a (v:= .int .i64 ax) (a0i hD 5 35 (by kernel_rfl) rfl rfl);go_simp;exact hK _ W ⟨_,rfl,(by first|with_reducible (first|exact a0j _|exact a0m _|assumption|exact a0n (by omega))|exact⟨by omega,by omega⟩)⟩ (zR _ _) hM
    |7,_,ho =>
     cases ho;have f13:=a0a (v:= .int .i64 (k:Nat)) (hA.at_ (k:=13) (by kernel_rfl));go_simp;exact hK (.int .i64 (k:Nat)) W rfl (zR _ _) hM
    |8,_,ho =>
     cases ho;have f36:=a0i hD 6 36 (by kernel_rfl) rfl rfl;obtain⟨x36,e36,g36⟩:=f36;have f36:=a0a e36;have f37:=a0a (v:= .int .i64 (k:Nat)) (a0i hD 7 37 (by kernel_rfl) rfl rfl);go_simp;exact hK _ W ⟨_,rfl,(by first|with_reducible (first|exact a0j _|exact a0m _|assumption|exact a0n (by omega))|exact⟨by omega,by omega⟩)⟩ (zR _ _) hM
    |9,_,ho =>
     cases ho;have f12:=a0a (v:= .int .i64 (M:Nat)) (hA.at_ (k:=12) (by kernel_rfl));go_simp;exact hK (.int .i64 (M:Nat)) W rfl (zR _ _) hM
    |10,_,ho =>
     cases ho;have f39:=a0a (v:= .int .i64 (M:Nat)) (a0i hD 9 39 (by kernel_rfl) rfl rfl);go_simp;exact hK (.int .i64 ((M:Nat)+1)) W rfl (zR _ _) hM
    |11,_,ho =>
     cases ho;have f38:=a0i hD 8 38 (by kernel_rfl) rfl rfl;obtain⟨x38,e38,g38⟩:=f38;have f38:=a0a e38;have f40:=a0a (v:= .int .i64 ((M:Nat)+1)) (a0i hD 10 40 (by kernel_rfl) rfl rfl);go_simp;exact hK _ W ⟨_,rfl,(by first|with_reducible (first|exact a0j _|exact a0m _|assumption|exact a0n (by omega))|exact⟨by omega,by omega⟩)⟩ (zR _ _) hM
    |12,_,ho =>
     cases ho;have f31:=a0a (v:= .int .i64 ax) (a0i hD 1 31 (by kernel_rfl) rfl rfl);have f41:=a0i hD 11 41 (by kernel_rfl) rfl rfl;obtain⟨x41,e41,g41⟩:=f41;have f41:=a0a e41;go_simp;exact hK _ W ⟨_,rfl,(by first|with_reducible (first|exact a0j _|exact a0m _|assumption|exact a0n (by omega))|exact⟨by omega,by omega⟩)⟩ (zR _ _) hM
    |13,_,ho =>
     cases ho;have f6:=a0a (v:= .pointer (some ⟨B6,0,none⟩)) (hA.at_ (k:=6) (by kernel_rfl));go_simp;exact hK (.pointer (some ⟨B6,1,none⟩)) W rfl (zR _ _) hM
    |14,_,ho =>
     cases ho;have f43:=a0a (v:= .pointer (some ⟨B6,1,none⟩)) (a0i hD 13 43 (by kernel_rfl) rfl rfl);have z0:W.cell? ⟨B6,1,none⟩=some (.int .i64 ay):=hM.a.cell 1;go_simp;exact hK (.int .i64 ay) W rfl (zR _ _) hM
    |15,_,ho =>
     cases ho;have f7:=a0a (v:= .pointer (some ⟨B7,0,none⟩)) (hA.at_ (k:=7) (by kernel_rfl));go_simp;exact hK (.pointer (some ⟨B7,1,none⟩)) W rfl (zR _ _) hM
    |16,_,ho =>
     cases ho;have f45:=a0a (v:= .pointer (some ⟨B7,1,none⟩)) (a0i hD 15 45 (by kernel_rfl) rfl rfl);have z0:W.cell? ⟨B7,1,none⟩=some (.int .i64 by_):=hM.u.cell 1;go_simp;exact hK (.int .i64 by_) W rfl (zR _ _) hM
    |17,_,ho =>
     cases ho;have f6:=a0a (v:= .pointer (some ⟨B6,0,none⟩)) (hA.at_ (k:=6) (by kernel_rfl));go_simp;exact hK (.pointer (some ⟨B6,1,none⟩)) W rfl (zR _ _) hM
    |18,_,ho =>
     cases ho;have f47:=a0a (v:= .pointer (some ⟨B6,1,none⟩)) (a0i hD 17 47 (by kernel_rfl) rfl rfl);have z0:W.cell? ⟨B6,1,none⟩=some (.int .i64 ay):=hM.a.cell 1;go_simp;exact hK (.int .i64 ay) W rfl (zR _ _) hM
    |19,_,ho =>
     cases ho;have f46:=a0a (v:= .int .i64 by_) (a0i hD 16 46 (by kernel_rfl) rfl rfl);have f48:=a0a (v:= .int .i64 ay) (a0i hD 18 48 (by kernel_rfl) rfl rfl);go_simp;exact hK _ W ⟨_,rfl,(by first|with_reducible (first|exact a0j _|exact a0m _|assumption|exact a0n (by omega))|exact⟨by omega,by omega⟩)⟩ (zR _ _) hM
    |20,_,ho =>
     cases ho;have f13:=a0a (v:= .int .i64 (k:Nat)) (hA.at_ (k:=13) (by kernel_rfl));go_simp;exact hK (.int .i64 (k:Nat)) W rfl (zR _ _) hM
    |21,_,ho =>
     cases ho;have f49:=a0i hD 19 49 (by kernel_rfl) rfl rfl;obtain⟨x49,e49,g49⟩:=f49;have f49:=a0a e49;have f50:=a0a (v:= .int .i64 (k:Nat)) (a0i hD 20 50 (by kernel_rfl) rfl rfl);go_simp;exact hK _ W ⟨_,rfl,(by first|with_reducible (first|exact a0j _|exact a0m _|assumption|exact a0n (by omega))|exact⟨by omega,by omega⟩)⟩ (zR _ _) hM
    |22,_,ho =>
     cases ho;have f12:=a0a (v:= .int .i64 (M:Nat)) (hA.at_ (k:=12) (by kernel_rfl));go_simp;exact hK (.int .i64 (M:Nat)) W rfl (zR _ _) hM
    |23,_,ho =>
     cases ho;have f52:=a0a (v:= .int .i64 (M:Nat)) (a0i hD 22 52 (by kernel_rfl) rfl rfl);go_simp;exact hK (.int .i64 ((M:Nat)+1)) W rfl (zR _ _) hM
    |24,_,ho =>
     cases ho;have f51:=a0i hD 21 51 (by kernel_rfl) rfl rfl;obtain⟨x51,e51,g51⟩:=f51;have f51:=a0a e51;have f53:=a0a (v:= .int .i64 ((M:Nat)+1)) (a0i hD 23 53 (by kernel_rfl) rfl rfl);go_simp;exact hK _ W ⟨_,rfl,(by first|with_reducible (first|exact a0j _|exact a0m _|assumption|exact a0n (by omega))|exact⟨by omega,by omega⟩)⟩ (zR _ _) hM
    |25,_,ho =>
     cases ho;have f44:=a0a (v:= .int .i64 ay) (a0i hD 14 44 (by kernel_rfl) rfl rfl);have f54:=a0i hD 24 54 (by kernel_rfl) rfl rfl;obtain⟨x54,e54,g54⟩:=f54;have f54:=a0a e54;go_simp;exact hK _ W ⟨_,rfl,(by first|with_reducible (first|exact a0j _|exact a0m _|assumption|exact a0n (by omega))|exact⟨by omega,by omega⟩)⟩ (zR _ _) hM
    |26,_,ho =>
     cases ho;have f42:=a0i hD 12 42 (by kernel_rfl) rfl rfl;obtain⟨x42,e42,g42⟩:=f42;have f42:=a0a e42;have f55:=a0i hD 25 55 (by kernel_rfl) rfl rfl;obtain⟨x55,e55,g55⟩:=f55;have f55:=a0a e55;go_simp;exact hK _ W ⟨_,_,rfl,g42,g55⟩ (zR _ _) hM
    |27,_,ho =>
     cases ho;go_simp;exact hK (.pointer (some ⟨W.heap.size,0,none⟩)) _ ⟨_,rfl,hM.b.size,Blk.new _ _ _⟩ ((zR _ _).alloc (yR _) _) (hM.up ((zR _ _).alloc (yR _) _))
    |i+28,hi,_=>exact absurd hi (by omega)
   ·intro bb W hM hA hall
    obtain⟨X,Y,hP26,fX,fY⟩:=(show ∃X Y,bb.eval (.tmp 56)= .agg #[.int .i64 X,.int .i64 Y]∧a0k X∧a0k Y from hall 26 (by omega) _ _ rfl rfl);obtain⟨B14,hP27,hBl,kB0⟩:=(show ∃B,bb.eval (.tmp 14)= .pointer (some ⟨B,0,none⟩)∧wr.heap.size≤B∧Blk W B #[.int .i64 0,.int .i64 0] 26 from hall 27 (by omega) _ _ rfl rfl);have hfr:=hA.frame [T,T,T,T,T,T,T,T,T,T,T,T,T,T,F,T,T,T,T,T,T,T,T,T,T,T,T,T,T,T,F,F,F,F,F,F,F,F,F,F,F,F,F,F,F,F,F,F,F,F,F,F,F,F,F,F,F,T,T,T,T,T,T,T,T,T,T,T,T,T,T,T,T,T,T,T,T,T,T,T,T,T,T,T,T,T,T,T,T,T,T,T,T,T,T,T,T,T,T,T,T,T,T,T,T,T,T,T,T,T,T,T,T,T,T,T,T,T,T,T,T,T,T] _ rfl (by kernel_rfl);clear hall hA;obtain⟨f,hf⟩:∃f:Nat→Value,(fun k=>bb.tmps.getD k undef)=f:=⟨_,rfl⟩;have g56:f 56= .agg #[.int .i64 X,.int .i64 Y]:=by rw[←hf,←hP26];rfl
    have g14:f 14= .pointer (some ⟨B14,0,none⟩):=by rw[←hf,←hP27];rfl
    rw[hf] at hfr;clear hf hP26 hP27;subst hfr;simp only[a2k,g56,g14,Nat.reduceAdd];clear g56 g14;simp only[List.drop_succ_cons,List.drop_zero];refine a1r (by rfl) _ _ _ (by rfl) B14 #[.int .i64 X,.int .i64 Y] (by rfl) (by rfl) _ _ kB0 (by rfl) (by rfl) (by simp[Value.oneCell']) ?_;intro W5 kP hg5;have hd5:=hd.fresh (hM.b.trans (Below.of_grown hg5 hM.b.size (fun r e=>by cases e;exact hBl))) hBl kP;clear hM kB0 hg5 kP hBl hd k6 k7;go_upto_region 8 with (first
     |(go_at_call 73;(with_reducible refine (hd5.call 17 (by omega) (by omega)).mono ?_);rintro e W6⟨dr,rfl,r0,r1,hd6⟩)
     |fail)
    obtain⟨a0,a1,-,-⟩:=pt2 hd6.b2;obtain⟨b0,b1,-,-⟩:=pt2 hd6.b3;clear hd5;by_cases hy:ay=by_
    ·subst hy
     obtain⟨p0,p1,fr0,fr1⟩:=pt2 hd6.b0;go_upto_region 10 with fail;refine a0g (fun W8 hW8=> ?_);obtain⟨Y7,fY7,hd8⟩:=hd6.pt1 (a0j (Y+(dr-8)));rw[←hW8] at hd8;clear hW8 p0 p1 fr0 fr1 a0 a1 b0 b1 hd6;by_cases hx:ax=bx
     ·subst hx
      obtain⟨p0,p1,fr0,fr1⟩:=pt2 hd8.b0;obtain⟨a0,a1,-,-⟩:=pt2 hd8.b2;obtain⟨b0,b1,-,-⟩:=pt2 hd8.b3;go_upto_region 12 with fail;refine a0g (fun W9 hW9=> ?_);obtain⟨X7,fX7,hd7⟩:=hd8.pt0 (a0j (X+(dr-8)));rw[←hW9] at hd7;clear hW9 p0 p1 fr0 fr1 a0 a1 b0 b1 hd8;obtain⟨p0,p1,-,-⟩:=pt2 hd7.b0;obtain⟨y0,y1,y2,y3,y4,y5,y6,y7⟩:=a3u hd7.b1;go_wp2_with (first
       |(at_builtin;refine a0w hd7.tw (by rfl) _ _ 147 (by rfl) underlying147 a1k (by rfl) hd7.s0 (by rfl) rfl (a3r fX7 fY7) rfl (by omega) ?_;intro v9 S9 w9 hsl9 he9;obtain⟨a9,c9,rfl,-⟩:=hsl9.form;have hd8:=(hd7.evo he9).tail;obtain⟨z0,z1,z2,z3,z4,z5,z6,z7⟩:=a3u hd8.b0;have zf:=hd8.b0.frozen 1)
       |fail)
      have hd9:=((hd8.tailT.add hsl9).set 1 (.slice a9 (n+1) c9) (c':=b7h (41+m) (.slice a9 (n+1) c9) lev ⟨#[]⟩ ⟨#[]⟩ false 0 0) (by simp));go_roundw
      case rel=>exact⟨k+1,S9,_,n+1,by omega,by omega,by go_num,by omega,hd9⟩
      case measure=>simp[intOf];omega
     ·have hxb:(ax==bx)=false:=by simpa using hx
      obtain⟨a0,a1,-,-⟩:=pt2 hd8.b2;obtain⟨b0,b1,-,-⟩:=pt2 hd8.b3;go_upto_region 12 with fail;clear a0 a1 b0 b1;have hd7:=hd8;have fX7:=fX;clear hd8;obtain⟨p0,p1,-,-⟩:=pt2 hd7.b0;obtain⟨y0,y1,y2,y3,y4,y5,y6,y7⟩:=a3u hd7.b1;go_wp2_with (first
       |(at_builtin;refine a0w hd7.tw (by rfl) _ _ 147 (by rfl) underlying147 a1k (by rfl) hd7.s0 (by rfl) rfl (a3r fX7 fY7) rfl (by omega) ?_;intro v9 S9 w9 hsl9 he9;obtain⟨a9,c9,rfl,-⟩:=hsl9.form;have hd8:=(hd7.evo he9).tail;obtain⟨z0,z1,z2,z3,z4,z5,z6,z7⟩:=a3u hd8.b0;have zf:=hd8.b0.frozen 1)
       |fail)
      have hd9:=((hd8.tailT.add hsl9).set 1 (.slice a9 (n+1) c9) (c':=b7h (41+m) (.slice a9 (n+1) c9) lev ⟨#[]⟩ ⟨#[]⟩ false 0 0) (by simp));go_roundw
      case rel=>exact⟨k+1,S9,_,n+1,by omega,by omega,by go_num,by omega,hd9⟩
      case measure=>simp[intOf];omega
    ·have hyb:(ay==by_)=false:=by simpa using hy
     go_upto_region 10 with fail;clear a0 a1 b0 b1;have hd8:=hd6;have fY7:=fY;clear hd6;obtain⟨Y7,hY7⟩:∃y,y=Y:=⟨_,rfl⟩;rw[←hY7] at fY7 hd8;clear hY7;by_cases hx:ax=bx
     ·subst hx
      obtain⟨p0,p1,fr0,fr1⟩:=pt2 hd8.b0;obtain⟨a0,a1,-,-⟩:=pt2 hd8.b2;obtain⟨b0,b1,-,-⟩:=pt2 hd8.b3;go_upto_region 12 with fail;refine a0g (fun W9 hW9=> ?_);obtain⟨X7,fX7,hd7⟩:=hd8.pt0 (a0j (X+(dr-8)));rw[←hW9] at hd7;clear hW9 p0 p1 fr0 fr1 a0 a1 b0 b1 hd8;obtain⟨p0,p1,-,-⟩:=pt2 hd7.b0;obtain⟨y0,y1,y2,y3,y4,y5,y6,y7⟩:=a3u hd7.b1;go_wp2_with (first
       |(at_builtin;refine a0w hd7.tw (by rfl) _ _ 147 (by rfl) underlying147 a1k (by rfl) hd7.s0 (by rfl) rfl (a3r fX7 fY7) rfl (by omega) ?_;intro v9 S9 w9 hsl9 he9;obtain⟨a9,c9,rfl,-⟩:=hsl9.form;have hd8:=(hd7.evo he9).tail;obtain⟨z0,z1,z2,z3,z4,z5,z6,z7⟩:=a3u hd8.b0;have zf:=hd8.b0.frozen 1)
       |fail)
      have hd9:=((hd8.tailT.add hsl9).set 1 (.slice a9 (n+1) c9) (c':=b7h (41+m) (.slice a9 (n+1) c9) lev ⟨#[]⟩ ⟨#[]⟩ false 0 0) (by simp));go_roundw
      case rel=>exact⟨k+1,S9,_,n+1,by omega,by omega,by go_num,by omega,hd9⟩
      case measure=>simp[intOf];omega
     ·have hxb:(ax==bx)=false:=by simpa using hx
      obtain⟨a0,a1,-,-⟩:=pt2 hd8.b2;obtain⟨b0,b1,-,-⟩:=pt2 hd8.b3;go_upto_region 12 with fail;clear a0 a1 b0 b1;have hd7:=hd8;have fX7:=fX;clear hd8;obtain⟨p0,p1,-,-⟩:=pt2 hd7.b0;obtain⟨y0,y1,y2,y3,y4,y5,y6,y7⟩:=a3u hd7.b1;go_wp2_with (first
       |(at_builtin;refine a0w hd7.tw (by rfl) _ _ 147 (by rfl) underlying147 a1k (by rfl) hd7.s0 (by rfl) rfl (a3r fX7 fY7) rfl (by omega) ?_;intro v9 S9 w9 hsl9 he9;obtain⟨a9,c9,rfl,-⟩:=hsl9.form;have hd8:=(hd7.evo he9).tail;obtain⟨z0,z1,z2,z3,z4,z5,z6,z7⟩:=a3u hd8.b0;have zf:=hd8.b0.frozen 1)
       |fail)
      have hd9:=((hd8.tailT.add hsl9).set 1 (.slice a9 (n+1) c9) (c':=b7h (41+m) (.slice a9 (n+1) c9) lev ⟨#[]⟩ ⟨#[]⟩ false 0 0) (by simp));go_roundw
      case rel=>exact⟨k+1,S9,_,n+1,by omega,by omega,by go_num,by omega,hd9⟩
      case measure=>simp[intOf];omega
  ·have hge:¬(k:Int)≤(M:Int):=by omega
   have hn4:n≤4:=by omega
   clear hlt hk1 hkM hn;obtain⟨b0,b1,-,-⟩:=pt2 hd.b2;obtain⟨y0,y1,y2,y3,y4,y5,y6,y7⟩:=a3u hd.b0;go_upto_region 14 with (first
    |(at_builtin;refine a0w hd.tw (by rfl) _ _ 147 (by rfl) underlying147 a1k (by rfl) hd.s0 (by rfl) rfl (a3r fc fd) rfl (by omega) ?_;intro v9 S9 w9 hsl9 he9;obtain⟨a9,c9,rfl,-⟩:=hsl9.form;have hd8:=hd.evo he9;obtain⟨z0,z1,z2,z3,z4,z5,z6,z7⟩:=a3u hd8.b0;have zf:=hd8.b0.frozen 1)
    |fail)
   refine a0g (fun WA hWA=> ?_);have hdA:=(hd8.tailT.add hsl9).put hWA (c':=b7h (41+m) (.slice a9 (n+1) c9) lev ⟨#[]⟩ ⟨#[]⟩ false 0 0) rfl;clear hd hd8 hsl9 he9 hWA z0 z1 z2 z3 z4 z5 z6 z7 zf b0 b1 y0 y1 y2 y3 y4 y5 y6 y7;have st1:Strs #[.string ⟨#[112,97,116,104]⟩,.string ⟨#[114,111,97,100]⟩]:=a5z [⟨#[112,97,116,104]⟩,⟨#[114,111,97,100]⟩] (by decide);go_upto_region 15 with (first
    |(go_at_call 73;(with_reducible refine ((hdA.box _ _).call 2 (by omega) (by omega)).mono ?_);rintro e Wb⟨q,rfl,q0,q1,hb⟩;obtain⟨q,rfl⟩:=Int.eq_ofNat_of_zero_le q0;obtain⟨s1,cs1,hs1⟩:=st1.at_ hb.b0 (q:=q) (by simp;omega);have hdB:=hb.tail;obtain⟨z0,z1,z2,z3,z4,z5,z6,z7⟩:=a3u hdB.b0;have zf:=hdB.b0.frozen 3)
    |fail)
   refine a0g (fun WC hWC=> ?_);have hdC:=hdB.put hWC (c':=b7h (41+m) (.slice a9 (n+1) c9) lev s1 ⟨#[]⟩ false 0 0) rfl;clear hdA hdB hb hWC z0 z1 z2 z3 z4 z5 z6 z7 zf cs1 st1;have st2:Strs #[.string ⟨#[]⟩,.string ⟨#[]⟩,.string ⟨#[82,105,110,103]⟩,.string ⟨#[79,108,100,32,87,97,121]⟩]:=a5z [⟨#[]⟩,⟨#[]⟩,⟨#[82,105,110,103]⟩,⟨#[79,108,100,32,87,97,121]⟩] (by decide);go_upto_region 16 with (first
    |(go_at_call 73;(with_reducible refine ((hdC.box _ _).call 4 (by omega) (by omega)).mono ?_);rintro e Wd⟨q',rfl,q'0,q'1,hd⟩;obtain⟨q',rfl⟩:=Int.eq_ofNat_of_zero_le q'0;obtain⟨s2,cs2,hs2⟩:=st2.at_ hd.b0 (q:=q') (by simp;omega);have hdD:=hd.tail;obtain⟨z0,z1,z2,z3,z4,z5,z6,z7⟩:=a3u hdD.b0;have zf:=hdD.b0.frozen 4)
    |fail)
   refine a0g (fun WE hWE=> ?_);have hdE:=hdD.put hWE (c':=b7h (41+m) (.slice a9 (n+1) c9) lev s1 s2 false 0 0) rfl;clear hdC hdD hd hWE z0 z1 z2 z3 z4 z5 z6 z7 zf cs2 st2;go_upto_region 17 with (first
    |(go_at_call 73;(with_reducible refine (hdE.call 4 (by omega) (by omega)).mono ?_);rintro e Wf⟨s,rfl,g0,g1,hdF⟩;obtain⟨z0,z1,z2,z3,z4,z5,z6,z7⟩:=a3u hdF.b0;have zf:=hdF.b0.frozen 5)
    |fail)
   refine a0g (fun WG hWG=> ?_);have hdG:=hdF.put hWG (c':=b7h (41+m) (.slice a9 (n+1) c9) lev s1 s2 (s==0) 0 0) rfl;clear hdE hdF hWG z0 z1 z2 z3 z4 z5 z6 z7 zf;obtain⟨sb,hsb⟩:∃b,(s==0)=b:=⟨_,rfl⟩;rw[hsb] at hdG;go_upto_region 18 with (first
    |(go_at_call 73;(with_reducible refine (hdG.call 60 (by omega) (by omega)).mono ?_);rintro e Wh⟨t,rfl,t0,t1,hdH⟩;obtain⟨z0,z1,z2,z3,z4,z5,z6,z7⟩:=a3u hdH.b0;have zf:=hdH.b0.frozen 6)
    |fail)
   refine a0g (fun WI hWI=> ?_);have hdI:=hdH.put hWI (c':=b7h (41+m) (.slice a9 (n+1) c9) lev s1 s2 sb (1+t) 0) rfl;clear hdG hdH hWI z0 z1 z2 z3 z4 z5 z6 z7 zf;go_upto_region 19 with (first
    |(go_at_call 73;(with_reducible refine (hdI.call 3 (by omega) (by omega)).mono ?_);rintro e Wj⟨x,rfl,x0,x1,hdJ⟩)
    |(go_at_call 73;(with_reducible refine (hdJ.call 2 (by omega) (by omega)).mono ?_);rintro e Wk⟨y,rfl,y0,y1,hdK⟩;obtain⟨z0,z1,z2,z3,z4,z5,z6,z7⟩:=a3u hdK.b0;have zf:=hdK.b0.frozen 7)
    |fail)
   refine a0g (fun WL hWL=> ?_);obtain⟨d7,f7,hdL⟩:=hdK.wd hWL (by first|with_reducible (first|exact a0j _|exact a0m _|assumption|exact a0n (by omega))|exact⟨by omega,by omega⟩);clear hdI hdJ hdK hWL z0 z1 z2 z3 z4 z5 z6 z7 zf;obtain⟨z0,z1,z2,z3,z4,z5,z6,z7⟩:=a3u hdL.b0;have f0:a0k (41+(m:Int)):=⟨by omega,by omega⟩;have f6:a0k (1+t):=⟨by omega,by omega⟩;go_wp2_with (first
    |(at_builtin;refine a0w hdL.tw (by rfl) _ _ 34 (by rfl) underlying34 a4b (by rfl) hdL.s1 (by rfl) rfl (c6c f0 fl hs1 hs2 f6 f7 hdL.s0 (by omega)) rfl (by omega) ?_;intro v9 S9 w9 hsl9 he9)
    |fail)
   go_ret;exact⟨S9,v9,rfl,hsl9,(hdL.evo he9).td,(hdL.evo he9).st.ev⟩
end
end Go.Proofs.YtfocdbjceedagaaGreatDoor
