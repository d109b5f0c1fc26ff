/-
  Parts.
-/
import Derived.Test.YtfocdbjceedagaaGreatDoorYbc
set_option linter.unusedVariables false
set_option linter.unusedSimpArgs false
set_option maxHeartbeats 4000000
set_option maxRecDepth 100000
namespace Go.Proofs.YtfocdbjceedagaaGreatDoor
open Tryz
section
open Go.RowKit Go.Shelf
attribute [local go_sem] Oper.semAt_some
attribute [local go_sem ↓] Go.wp_at_zero Go.wp_at_succ
theorem Ev.join {g S':BS}{W W':World}(h:TW g W)(h3:Ev noB noB W S' W'):Ev noB g W (fun b=>g b∨S' b) W':=by
 have h1:=Ev.of_below (X:=noB) h h3.low;refine⟨fun b hb=> .inl hb,fun b hb=> ?_,h3.os,h3.tape,h3.output,h3.size,fun b hb _ _=>h3.rest b hb (fun h=>h) (fun h=>h),h1.shape,fun b hb=> ?_⟩
 ·rcases hb with hb|hb
  ·exact .inl hb
  ·rcases h3.new b hb with h2|h2
   ·exact h2.elim
   ·exact .inr h2
 ·rcases hb with hb|hb
  ·obtain⟨c,e,hc,ht⟩:=h1.ok b hb
   exact⟨c,e,hc,ht.mono (fun _ h=> .inl h) (Shp.refl _ _)⟩
  ·obtain⟨c,e,hc,ht⟩:=h3.ok b hb
   exact⟨c,e,hc,ht.mono (fun _ h=> .inr h) (Shp.refl _ _)⟩
structure Bx1 (w:World)(B:Nat)(c:Array Value)(t:TypeId)(S:BS)(W:World):Prop where
 ev:Ev noB noB w S W
 b:Blk W B c t
 n:¬S B
 l:w.heap.size≤B
theorem Bx1.evo {w W W':World}{B:Nat}{c:Array Value}{t:TypeId}{S S':BS}(h:Bx1 w B c t S W)(he:Ev noB S W S' W'):Bx1 w B c t S' W':=⟨h.ev.trans he,he.blk h.b h.n (fun h=>h),he.not h.b.lt h.n,h.l⟩
theorem Bx1.up {w W W':World}{B:Nat}{c:Array Value}{t:TypeId}{S:BS}(h:Bx1 w B c t S W)(hb:Below W.heap.size W W'):Bx1 w B c t S W':=h.evo (Ev.of_below h.ev.ok hb)
def FAt (B3:Nat)(ev:Value)(px py:Int)(i:Nat)(v:Value)(g:BS)(w:World):Prop :=
 match i with
 |0=>v=ev
 |1=>∃n,SL g w 249 v n∧n≤100
 |2=>v= .agg #[.int .i64 px,.int .i64 py]
 |3=>∃x b,v= .tuple #[.int .i64 x,.bool b]
 |4=>∃x,v= .int .i64 x
 |5=>∃b,v= .bool b
 |_=>False
theorem FAt.kept {B3:Nat}{ev:Value}{px py:Int}{i:Nat}{v:Value}{g g':BS}{w w':World}(h:FAt B3 ev px py i v g w)(hg:Ev noB g w g' w'):FAt B3 ev px py i v g' w':=by
 unfold FAt at *;split at h
 all_goals first|exact h|(obtain⟨n,h1,h2⟩:=h;exact⟨n,hg.sl h1,h2⟩)|(exact h)
theorem c6f (S:BS)(w:World)(hT:TW S w)(ev:Value)(m:Nat)(hse:SL S w 206 ev m)(hm:m≤100)(px py:Int)(fpx:a0i px)(fpy:a0i py) :
 Calls prog 134 #[ev,.agg #[.int .i64 px,.int .i64 py]] w fun e w'=>d2v e∧Below w.heap.size w w':=by
 go_enter func134,ntmps134;go_upto_region 1 with fail;have h0:Bx1 w w.heap.size #[.int .i64 px,.int .i64 py] 26 noB (w.alloc (.cells #[.int .i64 px,.int .i64 py] 26)):=⟨Ev.of_below (TW.none _) (by repeat' (first|with_reducible (first|exact zR _ _|exact yR _|assumption|refine zG ?_ ?_ _|refine zA ?_ ?_ _|refine zS ?_ ?_ _|refine zD ?_|refine yA ?_|refine yG ?_|refine yS ?_|refine yD ?_)|omega|(dsimp only;omega))),Blk.new _ _ _,fun h=>h,yR _⟩;obtain⟨W1,hW1⟩:∃W,w.alloc (.cells #[.int .i64 px,.int .i64 py] 26)=W:=⟨_,rfl⟩;obtain⟨B3,hB3⟩:∃b,w.heap.size=b:=⟨_,rfl⟩;rw[hW1] at h0;rw[hW1];have h1:Bx1 w B3 #[.int .i64 px,.int .i64 py] 26 noB W1:=by rw[←hB3];exact h0
 rw[hB3];clear h0 hW1 hB3;refine Go.wp_region_reln 6 (by kernel_rfl) (by kernel_rfl) (fun _ g W=>Bx1 w B3 #[.int .i64 px,.int .i64 py] 26 g W) (fun g W g' W'=>Ev noB g W g' W') (FAt B3 ev px py) (fun _ _ _ _ _ _ h g=>h.kept g) noB (h1.evo (Ev.drew h1.ev.ok)) ?_ ?_
 ·intro i o hi ho c bb g W hc hM hA hD K hK
  match i,hi,ho with
  |0,_,ho =>
   cases ho;have f0:=a0a (v:=ev) (hA.at_ (k:=0) (by kernel_rfl));go_simp;exact hK (ev) g W rfl (Ev.refl hM.ev.ok) hM
  |1,_,ho =>
   cases ho;have f6:=a0a (v:=ev) (a0d hD 0 6 (by kernel_rfl) rfl rfl);go_simp;have hTW:=Ev.of_below (X:=noB) hT hM.ev.low;refine (c3b S W hTW.ok ev m (hTW.sl hse) hm).mono ?_;rintro e W'⟨S',v,rfl,⟨n,h1,h2⟩,h3⟩;go_simp;have hj:=Ev.join hM.ev.ok h3;exact hK v _ W' ⟨n,h1.mono (fun _ h=> .inr h) (Shp.refl _ _),h2⟩ hj (hM.evo hj)
  |2,_,ho =>
   cases ho;have f3:=a0a (v:= .pointer (some ⟨B3,0,none⟩)) (hA.at_ (k:=3) (by kernel_rfl));have z0:W.cell? ⟨B3,0,none⟩=some (.int .i64 px):=hM.b.cell 0;have z1:W.cell? ⟨B3,1,none⟩=some (.int .i64 py):=hM.b.cell 1;go_simp;exact hK (.agg #[.int .i64 px,.int .i64 py]) g W rfl (Ev.refl hM.ev.ok) hM
  |3,_,ho =>
   cases ho;have f7:=a0d hD 1 7 (by kernel_rfl) rfl rfl;have f8:=a0a (v:= .agg #[.int .i64 px,.int .i64 py]) (a0d hD 2 8 (by kernel_rfl) rfl rfl);obtain⟨n,h7,hn7⟩:=f7;obtain⟨tv,e7⟩:∃v,bb.eval (.tmp 7)=v:=⟨_,rfl⟩;rw[e7] at h7;have f7:=a0a e7;go_simp;refine (b7j g W hM.ev.ok tv n h7 hn7 px py fpx fpy).mono ?_;rintro e W'⟨⟨x,b,rfl⟩,hb⟩;go_simp;exact hK (.tuple #[.int .i64 x,.bool b]) g W' ⟨_,_,rfl⟩ (Ev.of_below hM.ev.ok hb) (hM.up hb)
  |4,_,ho =>
   cases ho;have f9:=a0d hD 3 9 (by kernel_rfl) rfl rfl;obtain⟨x,b,e9⟩:=f9;have f9:=a0a e9;go_simp;exact hK (.int .i64 x) g W ⟨_,rfl⟩ (Ev.refl hM.ev.ok) hM
  |5,_,ho =>
   cases ho;have f9:=a0d hD 3 9 (by kernel_rfl) rfl rfl;obtain⟨x,b,e9⟩:=f9;have f9:=a0a e9;go_simp;exact hK (.bool b) g W ⟨_,rfl⟩ (Ev.refl hM.ev.ok) hM
  |i+6,hi,_=>exact absurd hi (by omega)
 ·intro bb g W hM hA hall
  obtain⟨x,hP4⟩:=(show ∃x,bb.eval (.tmp 10)= .int .i64 x from hall 4 (by omega) _ _ rfl rfl);obtain⟨b,hP5⟩:=(show ∃b,bb.eval (.tmp 11)= .bool b from hall 5 (by omega) _ _ rfl rfl);have hfr:=hA.frame [T,T,T,T,T,T,F,F,F,F,F,F] _ rfl (by kernel_rfl);clear hall hA;obtain⟨f,hf⟩:∃f:Nat→Value,(fun k=>bb.tmps.getD k undef)=f:=⟨_,rfl⟩;have g10:f 10= .int .i64 x:=by rw[←hf,←hP4];rfl
  have g11:f 11= .bool b:=by rw[←hf,←hP5];rfl
  rw[hf] at hfr;clear hf hP4 hP5;subst hfr;simp only[a2a,g10,g11,Nat.reduceAdd];clear g10 g11;simp only[List.drop_succ_cons,List.drop_zero];go_wp2_with fail;go_ret2;exact⟨⟨_,_,rfl⟩,hM.ev.low⟩
theorem SL.face {S:BS}{W:World}{b off n cap:Nat}(hT:TW S W)(h:SL S W 140 (.slice (some ⟨b,off,none⟩) n cap) n){k:Nat}(hk:k<n):∃id d,W.cell? ⟨b,off+k*5,none⟩=some (.int .i64 id)∧W.cell? ⟨b,off+k*5+4,none⟩=some (.int .i64 d)∧a0i id∧a0i d:=by
 obtain⟨u0,c0,h0⟩:=h.cell hT a1l hk 0 .int rfl;obtain⟨u4,c4,h4⟩:=h.cell hT a1l hk 4 .int rfl;obtain⟨id,rfl,f0⟩:=h0.i rfl;obtain⟨d,rfl,f4⟩:=h4.i rfl;exact⟨id,d,c0,c4,f0,f4⟩
abbrev b4x (ev fv wv pv:Value):Array Value:= #[ev,fv,wv,pv]
theorem a9p (S:BS)(w:World)(hT:TW S w)(ea fa wa pa:Option Addr)(en ec wn wc pn pc fc:Nat)(n:Nat)(hsf:SL S w 140 (.slice fa n fc) n)(hn:n≤200)(id:Int) :
 Calls prog 135 #[.agg (b4x (.slice ea en ec) (.slice fa n fc) (.slice wa wn wc) (.slice pa pn pc)),.int .i64 id] w fun e w'=>(∃x,e= .returned (.int .i64 x)∧a0i x)∧Below w.heap.size w w':=by
 go_enter func135,ntmps135;go_wp2_with fail;have hb:Below w.heap.size w (w.alloc (.cells (b4x (.slice ea en ec) (.slice fa n fc) (.slice wa wn wc) (.slice pa pn pc)) 37)):=(by repeat' (first|with_reducible (first|exact zR _ _|exact yR _|assumption|refine zG ?_ ?_ _|refine zA ?_ ?_ _|refine zS ?_ ?_ _|refine zD ?_|refine yA ?_|refine yG ?_|refine yS ?_|refine yD ?_)|omega|(dsimp only;omega)));have k1:=(Blk.new w (b4x (.slice ea en ec) (.slice fa n fc) (.slice wa wn wc) (.slice pa pn pc)) 37).cell 1;have hev:=Ev.of_below (X:=noB) hT hb;obtain⟨W1,hW1⟩:∃W,w.alloc (.cells (b4x (.slice ea en ec) (.slice fa n fc) (.slice wa wn wc) (.slice pa pn pc)) 37)=W:=⟨_,rfl⟩;obtain⟨B,hB⟩:∃b,w.heap.size=b:=⟨_,rfl⟩;rw[hW1] at hb hev k1;rw[hW1];have c1:W1.cell? ⟨B,1,none⟩=some (.slice fa n fc):=by rw[←hB];exact k1
 rw[hB];clear k1 hB hW1;have hsf1:=hev.sl hsf;go_loopw [5] (fun kk wr=>∃k:Nat,k≤n∧kk= .int .i64 (k:Nat)∧wr=W1) (fun kk _=>n-(intOf kk).toNat)
 case atStart=>exact⟨0,Nat.zero_le _,rfl,rfl⟩
 case round =>
  obtain⟨k,hk,rfl,rfl⟩:=hrel;by_cases hlt:k<n
  ·have hltI:(k:Int)<(n:Int):=by omega
   obtain⟨b,off,cap',hab,-,-⟩:=hsf.some_ (by omega);simp only[Value.slice.injEq,true_and] at hab;obtain⟨rfl,rfl⟩:=hab;obtain⟨q,d,c0,c4,fq,fd⟩:=SL.face hev.ok hsf1 hlt;by_cases hqi:q=id
   ·subst hqi
    go_wp2_with fail;go_ret;exact⟨⟨_,rfl,fd⟩,hb⟩
   ·have hqb:(q==id)=false:=by simpa using hqi
    go_wp2_with fail;go_roundw
    case rel=>exact⟨k+1,by omega,by go_num,by first|rfl|trivial⟩
    case measure=>simp[intOf];omega
  ·have hge:¬(k:Int)<(n:Int):=by omega
   go_wp2_with fail;go_ret;exact⟨⟨_,rfl,⟨by decide,by decide⟩⟩,hb⟩
theorem a1y (i j:Int)(w:World):Calls prog 133 #[.int .i64 i,.int .i64 j] w fun e w'=>(∃x y,e= .returned (.agg #[.int .i64 x,.int .i64 y])∧a0i x∧a0i y)∧Below w.heap.size w w':=by
 go_enter func133,ntmps133;go_wp2_with fail;have hk:=Blk.new w #[.int .i64 (wrap64 (55+wrap64 (80*i))),.int .i64 (wrap64 (65+wrap64 (70*j)))] 26;exact bodyPost_ret (results_cell_row (by rfl) _ _ _ 26 _ (0,0) _ (by rfl) hk underlying26 (by rfl) (by kernel_rfl)) rfl ⟨⟨_,_,rfl,a0j _,a0j _⟩,(by repeat' (first|with_reducible (first|exact zR _ _|exact yR _|assumption|refine zG ?_ ?_ _|refine zA ?_ ?_ _|refine zS ?_ ?_ _|refine zD ?_|refine yA ?_|refine yG ?_|refine yS ?_|refine yD ?_)|omega|(dsimp only;omega)))⟩
abbrev a8b:=List (Nat×Array Value×TypeId)
abbrev SlL:=List (TypeId×Value×Nat)
structure DY (n₀ D:Nat)(sv:Value)(xs:List Int)(S0:BS)(W0:World)(S:BS)(W:World)(L:a8b)(T:SlL):Prop where
 st:ST n₀ D sv xs S0 W0 S W
 bx:∀p∈L,Blk W p.1 p.2.1 p.2.2∧¬S p.1∧p.1≠D∧W0.heap.size≤p.1
 ne:(L.map (·.1)).Nodup
 sl:∀q∈T,SL S W q.1 q.2.1 q.2.2
section
variable {n₀ D:Nat}{sv:Value}{xs:List Int}{S0 S S':BS}{W0 W W':World}{L:a8b}{T:SlL}{B B2 B3:Nat}{c c2 c3:Array Value}{t t2 t3:TypeId}{p:Nat×Array Value×TypeId}
theorem TD.dw (h:TD S n₀ D sv xs W):DY n₀ D sv xs S W S W [] []:=⟨h.st,fun _ h=>by simp at h,by simp,fun _ h=>by simp at h⟩
theorem DY.evo (h:DY n₀ D sv xs S0 W0 S W L T)(he:Ev noB S W S' W'):DY n₀ D sv xs S0 W0 S' W' L T :=
 ⟨h.st.evo he,fun p hp=>by obtain⟨h1,h2,h3,h4⟩:=h.bx p hp;exact⟨he.blk h1 h2 (fun h=>h),he.not h1.lt h2,h3,h4⟩,h.ne,fun q hq=>he.sl (h.sl q hq)⟩
theorem DY.up (h:DY n₀ D sv xs S0 W0 S W L T)(hb:Below W.heap.size W W'):DY n₀ D sv xs S0 W0 S W' L T:=h.evo (Ev.of_below h.st.td.tw hb)
theorem DY.drew (h:DY n₀ D sv xs S0 W0 S W L T):DY n₀ D sv xs S0 W0 S W.drew L T:=h.evo (Ev.drew h.st.td.tw)
theorem DY.fresh (h:DY n₀ D sv xs S0 W0 S W L T)(hb:Below W.heap.size W W')(hB:W.heap.size≤B)(hk:Blk W' B c t):DY n₀ D sv xs S0 W0 S W' ((B,c,t)::L) T:=by
 have h1:=h.up hb;refine⟨h1.st,fun p hp=> ?_,?_,h1.sl⟩
 ·rcases List.mem_cons.1 hp with rfl|hp
  ·exact⟨hk,fun hs=>by have:=h.st.td.tw.lt hs;omega,fun e=>by have:=h.st.td.lt;simp at e;omega,Nat.le_trans h.st.ev.size hB⟩
  ·exact h1.bx p hp
 ·rw[List.map_cons,List.nodup_cons]
  refine⟨fun hm=> ?_,h.ne⟩;obtain⟨p,hp,hpe⟩:=List.mem_map.1 hm;have h2:=(h.bx p hp).1.lt;simp only at hpe;omega
theorem DY.box (h:DY n₀ D sv xs S0 W0 S W L T)(c:Array Value)(t:TypeId):DY n₀ D sv xs S0 W0 S (W.alloc (.cells c t)) ((W.heap.size,c,t)::L) T:=h.fresh ((zR _ _).alloc (yR _) _) (yR _) (Blk.new _ _ _)
theorem DY.cellT (h:DY n₀ D sv xs S0 W0 S W L T){c:Array Value}{e:TypeId}(hc:TB S W e c):DY n₀ D sv xs S0 W0 (fun b=>S b∨b=W.heap.size) (W.alloc (.cells c e)) L T:=h.evo (Ev.alloc h.st.td.tw hc)
theorem DY.add (h:DY n₀ D sv xs S0 W0 S W L T){e:TypeId}{v:Value}{n:Nat}(hv:SL S W e v n):DY n₀ D sv xs S0 W0 S W L ((e,v,n)::T):=⟨h.st,h.bx,h.ne,fun q hq=>by
 rcases List.mem_cons.1 hq with rfl|hq
 ·exact hv
 ·exact h.sl q hq⟩
theorem DY.tail (h:DY n₀ D sv xs S0 W0 S W (p::L) T):DY n₀ D sv xs S0 W0 S W L T:=⟨h.st,fun q hq=>h.bx q (List.mem_cons_of_mem _ hq),(List.nodup_cons.1 h.ne).2,h.sl⟩
theorem DY.tailT {q:TypeId×Value×Nat}(h:DY n₀ D sv xs S0 W0 S W L (q::T)):DY n₀ D sv xs S0 W0 S W L T:=⟨h.st,h.bx,h.ne,fun q hq=>h.sl q (List.mem_cons_of_mem _ hq)⟩
theorem DY.swap {q:Nat×Array Value×TypeId}(h:DY n₀ D sv xs S0 W0 S W (p::q::L) T):DY n₀ D sv xs S0 W0 S W (q::p::L) T:=⟨h.st,fun r hr=>h.bx r (by
 simp only[List.mem_cons] at hr ⊢;rcases hr with h|h|h
 ·exact .inr (.inl h)
 ·exact .inl h
 ·exact .inr (.inr h)),by
  have:=h.ne;simp only[List.map_cons,List.nodup_cons,List.mem_cons,not_or] at this ⊢;exact⟨⟨fun e=>this.1.1 e.symm,this.2.1⟩,this.1.2,this.2.2⟩,h.sl⟩
theorem DY.call (h:DY n₀ D sv xs S0 W0 S W L T)(m:Int)(hm1:1≤m)(hm2:m≤4611686018427387904) :
 Calls prog 73 #[.pointer (some ⟨D,0,none⟩),.int .i64 m] W fun e W'=>∃v,e= .returned (.int .i64 v)∧0≤v∧v<m∧DY n₀ D sv xs S0 W0 S W' L T:=by
 refine (h.st.call m hm1 hm2).mono ?_;rintro e W'⟨v,rfl,h0,h1,h2,hg,h3⟩;exact⟨v,rfl,h0,h1,⟨h2,fun p hp=>by
  obtain⟨k1,k2,k3,k4⟩:=h.bx p hp;exact⟨k1.kept hg (fun e=>k3 (Option.some.inj e).symm),k2,k3,k4⟩,h.ne,fun q hq=>h3.sl (h.sl q hq)⟩⟩
theorem DY.write (h:DY n₀ D sv xs S0 W0 S W ((B,c,t)::L) T)(hg:W.grownBy W' (some B))(hk:Blk W' B c2 t2):DY n₀ D sv xs S0 W0 S W' ((B,c2,t2)::L) T:=by
 obtain⟨hB1,hB2,hB3,hB4⟩:=h.bx _ (List.mem_cons_self ..);have hsame:∀b,b≠B→b<W.heap.size→W'.heap[b]? =W.heap[b]? :=fun b hb hl=>hg.block b hl (fun e=>hb (Option.some.inj e))
 have hev:=h.st.ev.own hg (fun r e=>by cases e;exact⟨hB2,hB4⟩);have hlt:=h.st.td.lt;have hlo:=h.st.lo;obtain⟨j,hj,hb⟩:=h.st.td.box;have hbel:Below n₀ W W':=Below.of_grown hg (by have:=h.st.td.le;omega) (fun q e=>by cases e;simp only at hB4;omega);have hsh:Shp S W W':=fun b c e hb hc=>⟨c,(hsame b (fun e=>hB2 (by subst e;exact hb)) hc.lt).trans hc,rfl⟩
 refine⟨⟨⟨hev.ok,⟨j,hj,hb.kept hg (fun e=>hB3 (Option.some.inj e))⟩,h.st.td.ints.below hbel,h.st.td.le,h.st.td.len,h.st.td.low,h.st.td.not⟩,hev,hlo⟩,fun p hp=> ?_,?_,fun q hq=>(h.sl q hq).mono (fun _ h=>h) hsh⟩
 ·rcases List.mem_cons.1 hp with rfl|hp'
  ·exact⟨hk,hB2,hB3,hB4⟩
  ·obtain⟨k1,k2,k3,k4⟩:=h.bx p (List.mem_cons_of_mem _ hp')
   refine⟨k1.kept hg (fun e=> ?_),k2,k3,k4⟩;have:=h.ne;rw[List.map_cons,List.nodup_cons] at this;exact this.1 (List.mem_map.2 ⟨p,hp',(Option.some.inj e).symm⟩)
 ·exact h.ne
theorem DY.set (h:DY n₀ D sv xs S0 W0 S W ((B,c,t)::L) T)(i:Nat)(v:Value){c':Array Value}(hc:c.setIfInBounds i v=c'):DY n₀ D sv xs S0 W0 S (W.setCell ⟨B,i,none⟩ v) ((B,c',t)::L) T :=
 h.write (a1d W B i v) (hc▸(h.bx _ (List.mem_cons_self ..)).1.set i v)
theorem DY.b0 (h:DY n₀ D sv xs S0 W0 S W ((B,c,t)::L) T):Blk W B c t:=(h.bx _ (List.mem_cons_self ..)).1
theorem DY.b1 (h:DY n₀ D sv xs S0 W0 S W (p::(B,c,t)::L) T):Blk W B c t:=h.tail.b0
theorem DY.b2 {p2:Nat×Array Value×TypeId}(h:DY n₀ D sv xs S0 W0 S W (p::p2::(B,c,t)::L) T):Blk W B c t:=h.tail.tail.b0
theorem DY.b3 {p2 p3:Nat×Array Value×TypeId}(h:DY n₀ D sv xs S0 W0 S W (p::p2::p3::(B,c,t)::L) T):Blk W B c t:=h.tail.tail.tail.b0
theorem DY.s0 {e:TypeId}{v:Value}{n:Nat}(h:DY n₀ D sv xs S0 W0 S W L ((e,v,n)::T)):SL S W e v n:=h.sl _ (List.mem_cons_self ..)
theorem DY.s1 {q:TypeId×Value×Nat}{e:TypeId}{v:Value}{n:Nat}(h:DY n₀ D sv xs S0 W0 S W L (q::(e,v,n)::T)):SL S W e v n:=h.tailT.s0
theorem DY.s2 {q q2:TypeId×Value×Nat}{e:TypeId}{v:Value}{n:Nat}(h:DY n₀ D sv xs S0 W0 S W L (q::q2::(e,v,n)::T)):SL S W e v n:=h.tailT.tailT.s0
theorem DY.td (h:DY n₀ D sv xs S0 W0 S W L T):TD S n₀ D sv xs W:=h.st.td
theorem DY.tw (h:DY n₀ D sv xs S0 W0 S W L T):TW S W:=h.st.td.tw
theorem DY.then_ (h:DY n₀ D sv xs S0 W0 S W L T)(h1:TD S' n₀ D sv xs W')(h2:Ev (a9h D) S W S' W'):DY n₀ D sv xs S0 W0 S' W' L T :=
 ⟨h.st.then_ h1 h2,fun p hp=>by
  obtain⟨k1,k2,k3,k4⟩:=h.bx p hp;exact⟨h2.blk k1 k2 k3,h2.not k1.lt k2,k3,k4⟩,h.ne,fun q hq=>h2.sl (h.sl q hq)⟩
end
def Strs (c:Array Value):Prop:=∀u∈c.toList,∃s,u= .string s∧s.size≤30
theorem Strs.nil:Strs #[]:=fun u h=>by simp at h
theorem a5z (l:List ByteArray)(h:l.all (fun s=>decide (s.size≤30))=true):Strs (l.map Value.string).toArray:=fun u hu=>by
 simp only[List.mem_map] at hu;obtain⟨s,hs,rfl⟩:=hu;exact⟨s,rfl,of_decide_eq_true (List.all_eq_true.1 h s hs)⟩
theorem Strs.at_ {W:World}{B:Nat}{c:Array Value}{t:TypeId}(hs:Strs c)(h:Blk W B c t){q:Nat}(hq:q<c.size):∃s,W.cell? ⟨B,q,none⟩=some (.string s)∧s.size≤30:=by
 obtain⟨s,hx,h2⟩:=hs (c[q]'hq) (by simp);exact⟨s,by rw[h.cell,Array.getElem?_eq_getElem hq,hx],h2⟩
theorem a3s {W:World}{B:Nat}{a b c d e f g i:Value}{t:TypeId}(h:Blk W B #[a,b,c,d,e,f,g,i] t):W.cell? ⟨B,0,none⟩=some a∧W.cell? ⟨B,1,none⟩=some b∧W.cell? ⟨B,2,none⟩=some c∧W.cell? ⟨B,3,none⟩=some d∧W.cell? ⟨B,4,none⟩=some e∧W.cell? ⟨B,5,none⟩=some f∧W.cell? ⟨B,6,none⟩=some g∧W.cell? ⟨B,7,none⟩=some i :=
 ⟨h.cell 0,h.cell 1,h.cell 2,h.cell 3,h.cell 4,h.cell 5,h.cell 6,h.cell 7⟩
theorem a6p {W:World}{B:Nat}{a b c d e f g:Value}{t:TypeId}(h:Blk W B #[a,b,c,d,e,f,g] t):W.cell? ⟨B,0,none⟩=some a∧W.cell? ⟨B,1,none⟩=some b∧W.cell? ⟨B,2,none⟩=some c∧W.cell? ⟨B,3,none⟩=some d∧W.cell? ⟨B,4,none⟩=some e∧W.cell? ⟨B,5,none⟩=some f∧W.cell? ⟨B,6,none⟩=some g :=
 ⟨h.cell 0,h.cell 1,h.cell 2,h.cell 3,h.cell 4,h.cell 5,h.cell 6⟩
theorem a0k {W:World}{B:Nat}{a b c d:Value}{t:TypeId}(h:Blk W B #[a,b,c,d] t):W.cell? ⟨B,0,none⟩=some a∧W.cell? ⟨B,1,none⟩=some b∧W.cell? ⟨B,2,none⟩=some c∧W.cell? ⟨B,3,none⟩=some d :=
 ⟨h.cell 0,h.cell 1,h.cell 2,h.cell 3⟩
abbrev b7k (id:Int)(lv:Value)(lev:Int)(cs ns:ByteArray)(st:Bool)(wt ds:Int):Array Value:= #[.int .i64 id,lv,.int .i64 lev,.string cs,.string ns,.bool st,.int .i64 wt,.int .i64 ds]
abbrev c6x (id x y:Int)(cs ns:ByteArray)(wt ds:Int):Array Value:= #[.int .i64 id,.int .i64 x,.int .i64 y,.string cs,.string ns,.int .i64 wt,.int .i64 ds]
theorem c6g {S:BS}{W:World}{id lev wt ds:Int}{cs ns:ByteArray}{st:Bool}{v:Value}{n:Nat}(h0:a0i id)(h2:a0i lev)(h3:cs.size≤30)(h4:ns.size≤30)(h6:a0i wt)(h7:a0i ds)(hv:SL S W 26 v n)(hn:n≤100):TB S W 149 (b7k id v lev cs ns st wt ds):=b9d rfl rfl fun i u ct k1 k2=>by
 match i,k1,k2 with
 |0,k1,k2=>cases k1;cases k2;exact CT.ok_int h0
 |1,k1,k2=>cases k1;cases k2;exact CT.ok_sl hv hn
 |2,k1,k2=>cases k1;cases k2;exact CT.ok_int h2
 |3,k1,k2=>cases k1;cases k2;exact CT.ok_str h3
 |4,k1,k2=>cases k1;cases k2;exact CT.ok_str h4
 |5,k1,k2=>cases k1;cases k2;exact CT.ok_bool _
 |6,k1,k2=>cases k1;cases k2;exact CT.ok_int h6
 |7,k1,k2=>cases k1;cases k2;exact CT.ok_int h7
 |i+8,k1,_=>simp at k1
end
end Go.Proofs.YtfocdbjceedagaaGreatDoor
