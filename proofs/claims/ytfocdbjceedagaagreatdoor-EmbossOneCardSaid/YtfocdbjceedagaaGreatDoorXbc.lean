/-
  Parts.
-/
import Derived.Test.YtfocdbjceedagaaGreatDoorXbb
set_option linter.unusedVariables false
set_option linter.unusedSimpArgs false
set_option maxHeartbeats 2000000
set_option maxRecDepth 100000
namespace Go.Proofs.YtfocdbjceedagaaGreatDoor
open Tryz
section
open Go.RowKit Go.Shelf
attribute [local go_sem] Oper.semAt_some
attribute [local go_sem ↓] Go.wp_at_zero Go.wp_at_succ
theorem Ev.adopt {X S0 S:BS}{W0 W:World}(h:Ev X S0 W0 S W){L:Nat}{c:Array Value}{e:TypeId}(hL:W0.heap.size≤L)(hb:Blk W L c e)(hc:TB S W e c):Ev X S0 W0 (fun b=>S b∨b=L) W :=
 ⟨fun b hb=> .inl (h.sub b hb),fun b hb=>by
  rcases hb with hb|rfl
  ·exact h.new b hb
  ·exact .inr hL,h.os,h.tape,h.output,h.size,h.rest,h.shape,fun b hb'=>by
  rcases hb' with hb'|rfl
  ·obtain⟨c',e',h1,h2⟩:=h.ok b hb'
   exact⟨c',e',h1,h2.mono (fun _ h=> .inl h) (Shp.refl _ _)⟩
  ·exact⟨c,e,hb,hc.mono (fun _ h=> .inl h) (Shp.refl _ _)⟩⟩
theorem SL.point {S:BS}{W:World}{b off n cap:Nat}(hT:TW S W)(h:SL S W 26 (.slice (some ⟨b,off,none⟩) n cap) n){k:Nat}(hk:k<n):∃x y,W.cell? ⟨b,off+k*2,none⟩=some (.int .i64 x)∧W.cell? ⟨b,off+k*2+1,none⟩=some (.int .i64 y)∧a0k x∧a0k y:=by
 obtain⟨u0,c0,h0⟩:=h.cell hT a1k hk 0 .int rfl;obtain⟨u1,c1,h1⟩:=h.cell hT a1k hk 1 .int rfl;obtain⟨x,rfl,fx⟩:=h0.i rfl;obtain⟨y,rfl,fy⟩:=h1.i rfl;exact⟨x,y,c0,c1,fx,fy⟩
abbrev edC (id:Int)(lv:Value)(l r:Int):Array Value:= #[.int .i64 id,lv,.int .i64 l,.int .i64 r]
theorem ed4 {W:World}{B:Nat}{id l r:Int}{lv:Value}{t:TypeId}(h:Blk W B (edC id lv l r) t):W.cell? ⟨B,0,none⟩=some (.int .i64 id)∧W.cell? ⟨B,1,none⟩=some lv∧W.cell? ⟨B,2,none⟩=some (.int .i64 l)∧W.cell? ⟨B,3,none⟩=some (.int .i64 r):=⟨h.cell 0,h.cell 1,h.cell 2,h.cell 3⟩
structure T3 (S0:BS)(W0:World)(BE:Nat)(cE:Array Value)(BR:Nat)(cR:Array Value)(BO:Nat)(cO:Array Value)(t:TypeId)(S:BS)(W:World):Prop where
 ev:Ev noB S0 W0 S W
 e:Blk W BE cE t
 r:Blk W BR cR t
 o:Blk W BO cO t
 ne:¬S BE
 nr:¬S BR
 no:¬S BO
 le:W0.heap.size≤BE
 lr:W0.heap.size≤BR
 lo:W0.heap.size≤BO
 d:BE≠BO
 dr:BR≠BO
section
variable {S0 S S':BS}{W0 W W':World}{BE BR BO:Nat}{cE cR cO:Array Value}{t:TypeId}
theorem T3.evo (h:T3 S0 W0 BE cE BR cR BO cO t S W)(he:Ev noB S W S' W'):T3 S0 W0 BE cE BR cR BO cO t S' W':=⟨h.ev.trans he,he.blk h.e h.ne (fun h=>h),he.blk h.r h.nr (fun h=>h),he.blk h.o h.no (fun h=>h),he.not h.e.lt h.ne,he.not h.r.lt h.nr,he.not h.o.lt h.no,h.le,h.lr,h.lo,h.d,h.dr⟩
theorem T3.set (h:T3 S0 W0 BE cE BR cR BO cO t S W)(i:Nat)(v:Value):T3 S0 W0 BE cE BR cR BO (cO.setIfInBounds i v) t S (W.setCell ⟨BO,i,none⟩ v) :=
 ⟨h.ev.own (a1g W BO i v) (fun r e=>by cases e;exact⟨h.no,h.lo⟩),h.e.other h.d i v,h.r.other h.dr i v,h.o.set i v,h.ne,h.nr,h.no,h.le,h.lr,h.lo,h.d,h.dr⟩
end
theorem T3.done {S0 S:BS}{W0 W:World}{BE BR BO:Nat}{cE cO:Array Value}{t:TypeId}{a b c d:Value}(h:T3 S0 W0 BE cE BR #[a,b,c,d] BO cO t S W)(x y z u:Value) :
 Ev noB S0 W0 S ((((W.setCell ⟨BR,0,none⟩ x).setCell ⟨BR,1,none⟩ y).setCell ⟨BR,2,none⟩ z).setCell ⟨BR,3,none⟩ u)∧Blk ((((W.setCell ⟨BR,0,none⟩ x).setCell ⟨BR,1,none⟩ y).setCell ⟨BR,2,none⟩ z).setCell ⟨BR,3,none⟩ u) BR #[x,y,z,u] t ∧
  Shp S W ((((W.setCell ⟨BR,0,none⟩ x).setCell ⟨BR,1,none⟩ y).setCell ⟨BR,2,none⟩ z).setCell ⟨BR,3,none⟩ u):=by
 have hr:∀r,some BR=some r→¬S r∧W0.heap.size≤r:=fun r e=>by cases e;exact⟨h.nr,h.lr⟩
 refine⟨(((h.ev.own (a1g _ BR 0 x) hr).own (a1g _ BR 1 y) hr).own (a1g _ BR 2 z) hr).own (a1g _ BR 3 u) hr,?_,?_⟩
 ·simpa using (((h.r.set 0 x).set 1 y).set 2 z).set 3 u
 ·exact (((Shp.set h.nr 0 x).trans (Shp.set h.nr 1 y) (fun _ h=>h)).trans (Shp.set h.nr 2 z) (fun _ h=>h)).trans (Shp.set h.nr 3 u) (fun _ h=>h)
structure TuI (wr:World)(BE BO b off q:Nat)(id l r:Int)(lv ov:Value)(x y:Int)(W:World):Prop where
 bel:Below wr.heap.size wr W
 e:Blk W BE (edC id lv l r) 206
 o:Blk W BO (edC id ov r l) 206
 x:W.cell? ⟨b,off+q*2,none⟩=some (.int .i64 x)
 y:W.cell? ⟨b,off+q*2+1,none⟩=some (.int .i64 y)
theorem TuI.up {wr W W':World}{BE BO b off q:Nat}{id l r:Int}{lv ov:Value}{x y:Int}(h:TuI wr BE BO b off q id l r lv ov x y W)(hb:Below W.heap.size W W'):TuI wr BE BO b off q id l r lv ov x y W' :=
 ⟨h.bel.trans (hb.mono h.bel.size),h.e.below hb h.e.lt,h.o.below hb h.o.lt,(hb.cell (p:=⟨b,off+q*2,none⟩) (World.block_lt_of_cell? _ _ h.x)).trans h.x,(hb.cell (p:=⟨b,off+q*2+1,none⟩) (World.block_lt_of_cell? _ _ h.y)).trans h.y⟩
def FTu (wr:World)(BE BO b off q n lcap:Nat)(ov:Value)(x y:Int)(i:Nat)(v:Value)(w:World):Prop :=
 match i with
 |0=>v= .pointer (some ⟨BO,1,none⟩)
 |1=>v=ov
 |2=>v= .pointer (some ⟨BE,1,none⟩)
 |3=>v= .slice (some ⟨b,off,none⟩) n lcap
 |4=>v= .int .i64 (q:Nat)
 |5=>v= .pointer (some ⟨b,off+q*2,none⟩)
 |6=>v= .agg #[.int .i64 x,.int .i64 y]
 |7=>∃L,v= .slice (some ⟨L,0,none⟩) 1 1∧wr.heap.size≤L∧Blk w L #[.int .i64 x,.int .i64 y] 26
 |_=>False
theorem FTu.kept {wr:World}{BE BO b off q n lcap:Nat}{ov:Value}{x y:Int}{i:Nat}{v:Value}{w w':World}(h:FTu wr BE BO b off q n lcap ov x y i v w)(hg:Below w.heap.size w w'):FTu wr BE BO b off q n lcap ov x y i v w':=by
 unfold FTu at *;split at h
 all_goals first|exact h|(obtain⟨L,h1,h2,h3⟩:=h;exact⟨L,h1,h2,h3.below hg h3.lt⟩)
theorem b3g (S:BS)(w:World)(hT:TW S w)(id l r:Int)(lv:Value)(n:Nat)(hsl:SL S w 26 lv n)(hn:n≤100)(fid:a0k id)(fl:a0k l)(fr:a0k r) :
 Calls prog 137 #[.agg (edC id lv l r)] w fun e w'=>∃S' v,e= .returned (.agg (edC id v r l))∧SL S' w' 26 v n∧Ev noB S w S' w':=by
 obtain⟨la,lcap,rfl,hnc⟩:=hsl.form;go_enter func137,ntmps137;go_wp2_with fail;have hlt:=fun b hb=>hT.lt (b:=b) hb
 have h3:T3 S w w.heap.size (edC id (.slice la n lcap) l r) (w.heap.size+1) edZ (w.heap.size+1+1) (edC id (.slice none 0 0) r l) 206 S (((w.alloc (.cells (edC id (.slice la n lcap) l r) 206)).alloc (.cells edZ 206)).alloc (.cells (edC id (.slice none 0 0) r l) 206)):=by
  have hb:Below w.heap.size w (((w.alloc (.cells (edC id (.slice la n lcap) l r) 206)).alloc (.cells edZ 206)).alloc (.cells (edC id (.slice none 0 0) r l) 206)):=zC;have k1:=Blk.new (w.alloc (.cells (edC id (.slice la n lcap) l r) 206)) edZ 206;have k2:=Blk.new ((w.alloc (.cells (edC id (.slice la n lcap) l r) 206)).alloc (.cells edZ 206)) (edC id (.slice none 0 0) r l) 206;simp only[World.size_alloc] at k1 k2;exact⟨Ev.of_below hT hb,((Blk.new w _ _).alloc _).alloc _,k1.alloc _,k2,fun h=>by have:=hlt _ h;omega,fun h=>by have:=hlt _ h;omega,fun h=>by have:=hlt _ h;omega,yR _,by omega,by omega,by omega,by omega⟩
 obtain⟨W1,hW1⟩:∃W,(((w.alloc (.cells (edC id (.slice la n lcap) l r) 206)).alloc (.cells edZ 206)).alloc (.cells (edC id (.slice none 0 0) r l) 206))=W:=⟨_,rfl⟩;rw[hW1] at h3;rw[hW1];clear hW1 hlt;obtain⟨BR,hBR⟩:∃b,w.heap.size+1=b:=⟨_,rfl⟩;obtain⟨BO,hBO⟩:∃b,w.heap.size+1+1=b:=⟨_,rfl⟩;obtain⟨BE,hBE⟩:∃b,w.heap.size=b:=⟨_,rfl⟩;rw[hBO,hBR,hBE] at h3;rw[hBO,hBR,hBE];clear hBO hBR hBE;go_loopw [4] (fun kk wr=>∃(t:Nat) (S':BS) (ov:Value),t≤n∧kk= .int .i64 ((t:Int)-1)∧SL S' wr 26 ov (n-t)∧T3 S w BE (edC id (.slice la n lcap) l r) BR edZ BO (edC id ov r l) 206 S' wr) (fun kk _=>(intOf kk+1).toNat)
 case atStart=>exact⟨n,S,.slice none 0 0,yR _,rfl,by rw[Nat.sub_self];exact SL.nil _ _ _,h3⟩
 case round =>
  clear h3;obtain⟨t,S',ov,ht,hkk,hso,h3⟩:=hrel
  cases t with
  |zero =>
   subst hkk;obtain⟨oa,oc,rfl,-⟩:=hso.form;rw[Nat.sub_zero] at hso h3;obtain⟨o0,o1,o2,o3⟩:=ed4 h3.o;have f0:=h3.r.frozen 0;have f1:=h3.r.frozen 1;have f2:=h3.r.frozen 2;have f3:=h3.r.frozen 3;obtain⟨r0,r1,r2,r3⟩:=ed4 h3.r;obtain⟨hev,hbr,hsh⟩:=h3.done (.int .i64 id) (.slice oa n oc) (.int .i64 r) (.int .i64 l);clear h3;go_wp2_with fail;exact bodyPost_ret (results_cell_row (by rfl) _ _ BR 206 _ (0,0) _ (by rfl) hbr underlying206 (by rfl) (by kernel_rfl)) rfl ⟨_,_,rfl,hso.mono (fun _ h=>h) hsh,hev⟩
  |succ q =>
   rw[show (((q+1:Nat):Int)-1)=(q:Int) from by omega] at hkk;subst hkk;have hls:=h3.ev.sl hsl;obtain⟨b,off,cap',hab,-,-⟩:=hsl.some_ (by omega);simp only[Value.slice.injEq,true_and] at hab;obtain⟨rfl,rfl⟩:=hab;obtain⟨x,y,c0,c1,fx,fy⟩:=SL.point h3.ev.ok hls (k:=q) (by omega);have hq0:0≤(q:Int):=by omega
   have hqI:(q:Int)<(n:Int):=by omega
   have hsf:=hso.form;go_upto_region 5 with fail;refine Go.wp_region_rel 8 (by kernel_rfl) (by kernel_rfl) (fun _ W=>TuI wr BE BO b off q id l r (.slice (some ⟨b,off,none⟩) n lcap) ov x y W) (fun w w'=>Below w.heap.size w w') (FTu wr BE BO b off q n lcap ov x y) (fun _ _ _ _ h g=>h.kept g) ⟨(zR _ _).drew,h3.e.drew,h3.o.drew,c0,c1⟩ ?_ ?_
   ·clear h3 hso hls hsl
    intro i o hi ho c bb W hc hM hA hD K hK;match i,hi,ho with
    |0,_,ho =>
     cases ho;have f3:=a0a (v:= .pointer (some ⟨BO,0,none⟩)) (hA.at_ (k:=3) (by kernel_rfl));go_simp;exact hK (.pointer (some ⟨BO,1,none⟩)) W rfl (zR _ _) hM
    |1,_,ho =>
     cases ho;have f20:=a0a (v:= .pointer (some ⟨BO,1,none⟩)) (a0i hD 0 20 (by kernel_rfl) rfl rfl);have z0:W.cell? ⟨BO,1,none⟩=some (ov):=hM.o.cell 1;go_simp;exact hK (ov) W rfl (zR _ _) hM
    |2,_,ho =>
     cases ho;have f1:=a0a (v:= .pointer (some ⟨BE,0,none⟩)) (hA.at_ (k:=1) (by kernel_rfl));go_simp;exact hK (.pointer (some ⟨BE,1,none⟩)) W rfl (zR _ _) hM
    |3,_,ho =>
     cases ho;have f22:=a0a (v:= .pointer (some ⟨BE,1,none⟩)) (a0i hD 2 22 (by kernel_rfl) rfl rfl);have z0:W.cell? ⟨BE,1,none⟩=some (.slice (some ⟨b,off,none⟩) n lcap):=hM.e.cell 1;go_simp;exact hK (.slice (some ⟨b,off,none⟩) n lcap) W rfl (zR _ _) hM
    |4,_,ho =>
     cases ho;have f4:=a0a (v:= .int .i64 (q:Nat)) (hA.at_ (k:=4) (by kernel_rfl));go_simp;exact hK (.int .i64 (q:Nat)) W rfl (zR _ _) hM
    |5,_,ho =>
     cases ho;have f23:=a0a (v:= .slice (some ⟨b,off,none⟩) n lcap) (a0i hD 3 23 (by kernel_rfl) rfl rfl);have f24:=a0a (v:= .int .i64 (q:Nat)) (a0i hD 4 24 (by kernel_rfl) rfl rfl);go_simp;exact hK (.pointer (some ⟨b,off+q*2,none⟩)) W rfl (zR _ _) hM
    |6,_,ho =>
     cases ho;have f25:=a0a (v:= .pointer (some ⟨b,off+q*2,none⟩)) (a0i hD 5 25 (by kernel_rfl) rfl rfl);have z0:W.cell? ⟨b,off+q*2,none⟩=some (.int .i64 x):=hM.x;have z1:W.cell? ⟨b,off+q*2+1,none⟩=some (.int .i64 y):=hM.y;go_simp;exact hK (.agg #[.int .i64 x,.int .i64 y]) W rfl (zR _ _) hM
    |7,_,ho =>
     cases ho;have f26:=a0a (v:= .agg #[.int .i64 x,.int .i64 y]) (a0i hD 6 26 (by kernel_rfl) rfl rfl);go_simp;exact hK (.slice (some ⟨W.heap.size,0,none⟩) 1 1) _ ⟨_,rfl,hM.bel.size,Blk.new _ _ _⟩ ((zR _ _).alloc (yR _) _) (hM.up ((zR _ _).alloc (yR _) _))
    |i+8,hi,_=>exact absurd hi (by omega)
   ·intro bb W hM hA hall
    obtain⟨L,hP7,hLl,kL⟩:=(show ∃L,bb.eval (.tmp 27)= .slice (some ⟨L,0,none⟩) 1 1∧wr.heap.size≤L∧Blk W L #[.int .i64 x,.int .i64 y] 26 from hall 7 (by omega) _ _ rfl rfl);have hP1:bb.eval (.tmp 21)=ov:=hall 1 (by omega) _ _ rfl rfl;have hfr:=hA.frame [T,T,T,T,T,T,T,T,T,T,T,T,T,T,T,T,T,T,T,T,F,F,F,F,F,F,F,F,T,T,T] _ rfl (by kernel_rfl);clear hall hA;obtain⟨f,hf⟩:∃f:Nat→Value,(fun k=>bb.tmps.getD k undef)=f:=⟨_,rfl⟩;have g27:f 27= .slice (some ⟨L,0,none⟩) 1 1:=by rw[←hf,←hP7];rfl
    have g21:f 21=ov:=by rw[←hf,←hP1];rfl
    rw[hf] at hfr;clear hf hP7 hP1;subst hfr;simp only[a2k,g27,g21,Nat.reduceAdd];clear g27 g21;simp only[List.drop_succ_cons,List.drop_zero];have hE1:Ev noB S' wr (fun b=>S' b∨b=L) W:=(Ev.of_below h3.ev.ok hM.bel).adopt hLl kL (a3r fx fy);have h4:=h3.evo hE1;have hso4:=hE1.sl hso;have slL:SL (fun b=>S' b∨b=L) W 26 (.slice (some ⟨L,0,none⟩) 1 1) 1:=SL.blk (.inr rfl) kL (by show 1*2≤2;omega);have hno:=h3.no;clear h3 hso hls hM hE1;go_wp2_with (first
     |(at_builtin;refine a1b (X:=noB) h4.ev.ok (by rfl) _ _ 147 (by rfl) underlying147 a1k (by rfl) hso4 (by rfl) slL (by omega) ?_;intro v9 S9 w9 hsl9 he9;obtain⟨a9,c9,rfl,-⟩:=hsl9.form;have h5:=h4.evo he9;obtain⟨-,o1,-,-⟩:=ed4 h5.o;have fo1:=h5.o.frozen 1)
     |fail)
    go_roundw
    case rel=>exact⟨q,_,_,by omega,by first|rfl|go_num,by rw[show n-q=n-(q+1)+1 from by omega];exact SL.mono hsl9 (fun _ h=>h) (Shp.set h5.no _ _),by have h6:=h5.set 1 (.slice a9 (n-(q+1)+1) c9);simpa using h6⟩
    case measure=>simp[intOf];try omega
theorem b4s (n₀ D:Nat)(sv:Value)(xs:List Int)(S:BS)(w:World)(h:TD S n₀ D sv xs w)(ev:Value)(m:Nat)(hse:SL S w 206 ev m)(hm:m≤100)(lv:Value)(n:Nat)(hsl:SL S w 26 lv n)(hn:n≤100)(l r:Int)(fl:a0k l)(fr:a0k r) :
 Calls prog 126 #[ev,lv,.int .i64 l,.int .i64 r,.pointer (some ⟨D,0,none⟩)] w fun e w'=>∃S' v,e= .returned v∧(∃m',SL S' w' 206 v m'∧m'≤m+1)∧TD S' n₀ D sv xs w'∧Ev (a9j D) S w S' w':=by
 obtain⟨ea,ecap,rfl,hec⟩:=hse.form;by_cases hlr:l=r
 ·subst hlr
  go_enter func126,ntmps126;go_wp2_with fail;go_ret;exact⟨S,_,rfl,⟨m,hse,by omega⟩,h,Ev.refl h.tw⟩
 ·have hlrb:(l==r)=false:=by simpa using hlr
  obtain⟨la,lcap,rfl,hlc⟩:=hsl.form;have hlt:=fun b hb=>h.tw.lt (b:=b) hb
  have hDl:=h.lt;go_enter func126,ntmps126;go_upto_region 4 with fail;refine a0g (fun W1 hW1=> ?_);have hs1:ST n₀ D sv xs S w S W1:=by
   rw[hW1];exact h.st.alloc _
  have k1:Blk W1 w.heap.size (edC ((m:Int)+1) (.slice la n lcap) l r) 206:=by
   rw[hW1];exact Blk.new _ _ _
  have hse1:SL S W1 206 (.slice ea m ecap) m:=hs1.ev.sl hse;have hsl1:SL S W1 26 (.slice la n lcap) n:=hs1.ev.sl hsl;clear hW1;have n1:¬S w.heap.size:=fun hb=>Nat.lt_irrefl _ (hlt _ hb)
  have d1:w.heap.size≠D:=by omega
  have le1:w.heap.size≤w.heap.size:=yR _;obtain⟨B,hB⟩:∃b,w.heap.size=b:=⟨_,rfl⟩;have le2:w.heap.size≤B:=by omega
  rw[hB] at k1 n1 d1;rw[hB];clear hB hlt hDl le1;have fid:a0k ((m:Int)+1):=⟨by omega,by omega⟩;go_upto_if 25 with (first
   |(go_at_call 73;refine (hs1.call 2 (by omega) (by omega)).mono ?_;rintro e W2⟨q,rfl,q0,q1,hs2,hg2,he2⟩;have k2:=k1.kept hg2 (fun e=>d1 (Option.some.inj e).symm);have hse2:=he2.sl hse1;have hsl2:=he2.sl hsl1)
   |fail)
  have hsz:=hs2.ev.size;clear hs1 hg2 he2 hse1 hsl1 k1;by_cases hq:q=1
  ·subst hq
   obtain⟨z0,z1,z2,z3⟩:=ed4 k2;go_upto_region 6 with (first
    |(go_at_call 137;refine (b3g S W2 hs2.td.tw _ _ _ _ n hsl2 hn fid fl fr).mono ?_;rintro e W3⟨S3,v3,rfl,hsl3,he3⟩;obtain⟨a3,c3,rfl,-⟩:=hsl3.form;have hs3:=hs2.evo he3;have k3:=he3.blk k2 n1 (fun h=>h);have hse3:=he3.sl hse2;have n3:=he3.not k2.lt n1;obtain⟨z0,z1,z2,z3⟩:=ed4 k3;have f0:=k3.frozen 0;have f1:=k3.frozen 1;have f2:=k3.frozen 2;have f3:=k3.frozen 3)
    |fail)
   refine a0g (fun W4 hW4=> ?_);have hs4:ST n₀ D sv xs S w S3 W4:=by
    rw[hW4];exact (((hs3.own le2 n3 d1 0 _).own le2 n3 d1 1 _).own le2 n3 d1 2 _).own le2 n3 d1 3 _
   have k4:Blk W4 B (edC ((m:Int)+1) (.slice a3 n c3) r l) 206:=by
    rw[hW4];simpa using (((k3.set 0 (.int .i64 ((m:Int)+1))).set 1 (.slice a3 n c3)).set 2 (.int .i64 r)).set 3 (.int .i64 l)
   have hsh:Shp S3 W3 W4:=by
    rw[hW4];exact (((Shp.set n3 0 _).trans (Shp.set n3 1 _) (fun _ h=>h)).trans (Shp.set n3 2 _) (fun _ h=>h)).trans (Shp.set n3 3 _) (fun _ h=>h)
   have hse4:=hse3.mono (fun _ h=>h) hsh;have hsl4:=hsl3.mono (fun _ h=>h) hsh;clear hW4 z0 z1 z2 z3 f0 f1 f2 f3 k3 k2 hs3 hs2 hse3 hse2 hsl2 hsl3 he3 hsh;obtain⟨z0,z1,z2,z3⟩:=ed4 k4;go_wp2_with (first
    |(at_builtin;refine a0w hs4.td.tw (by rfl) _ _ 32 (by rfl) underlying32 a1u (by rfl) hse4 (by rfl) rfl (a6z fid fr fl hsl4 hn) rfl (by omega) ?_;intro v9 S9 w9 hsl9 he9)
    |fail)
   go_ret;exact⟨S9,_,rfl,⟨m+1,hsl9,by omega⟩,(hs4.evo he9).td,(hs4.evo he9).ev⟩
  ·have hqb:(q==1)=false:=by simpa using hq
   obtain⟨z0,z1,z2,z3⟩:=ed4 k2;go_wp2_with (first
    |(at_builtin;refine a0w hs2.td.tw (by rfl) _ _ 32 (by rfl) underlying32 a1u (by rfl) hse2 (by rfl) rfl (a6z fid fl fr hsl2 hn) rfl (by omega) ?_;intro v9 S9 w9 hsl9 he9)
    |fail)
   go_ret;exact⟨S9,_,rfl,⟨m+1,hsl9,by omega⟩,(hs2.evo he9).td,(hs2.evo he9).ev⟩
theorem c0u {S:BS}{W:World}{c:Array Value}(h:∀u∈c.toList,∃x,u= .int .i64 x∧a0k x):TB S W 26 c:=fun i u ct h1 h2=>by
 obtain⟨x,rfl,hx⟩:=h u (by rw[←Array.getElem?_toList] at h1;exact List.mem_of_getElem? h1);rw[show a6y 26=2 from rfl] at h2;rcases Nat.mod_two_eq_zero_or_one i with e|e
 ·rw[e] at h2
  cases h2;exact CT.ok_int hx
 ·rw[e] at h2
  cases h2;exact CT.ok_int hx
theorem c2k (n₀ D:Nat)(sv:Value)(xs:List Int)(S:BS)(w:World)(h:TD S n₀ D sv xs w)(ev:Value)(m:Nat)(hse:SL S w 206 ev m)(hm:m≤99)(x y a:Int)(fx:a0k x)(fy:a0k y)(fa:a0k a) :
 Calls prog 130 #[ev,.agg #[.int .i64 x,.int .i64 y],.int .i64 a,.pointer (some ⟨D,0,none⟩)] w fun e w'=>∃S' v,e= .returned v∧(∃m',SL S' w' 206 v m'∧m'≤m+1)∧TD S' n₀ D sv xs w'∧Ev (a9j D) S w S' w':=by
 have hlt:=fun b hb=>h.tw.lt (b:=b) hb
 have hDl:=h.lt;obtain⟨ea,ecap,rfl,hec⟩:=hse.form;go_enter func130,ntmps130;go_upto_region 1 with fail;refine a0g (fun W1 hW1=> ?_);have hs1:ST n₀ D sv xs S w S W1:=by
  rw[hW1];exact h.st.alloc _
 have k1:Blk W1 w.heap.size #[.int .i64 x,.int .i64 y] 26:=by
  rw[hW1];exact Blk.new _ _ _
 have hse1:SL S W1 206 (.slice ea m ecap) m:=hs1.ev.sl hse;clear hW1;have n1:¬S w.heap.size:=fun hb=>Nat.lt_irrefl _ (hlt _ hb)
 have d1:w.heap.size≠D:=by omega
 obtain⟨B,hB⟩:∃b,w.heap.size=b:=⟨_,rfl⟩;rw[hB] at k1 n1 d1;rw[hB];clear hB hlt hDl;go_upto_region 3 with (first
  |(go_at_call 73;refine (hs1.call 8 (by omega) (by omega)).mono ?_;rintro e W2⟨q,rfl,q0,q1,hs2,hg2,he2⟩;have k2:=k1.kept hg2 (fun e=>d1 (Option.some.inj e).symm);have hse2:=he2.sl hse1;obtain⟨z0,z1,-,-⟩:=pt2 k2)
  |fail)
 refine a0g (fun W3 hW3=> ?_);obtain⟨S3,hs3,sl3,hse3,n3⟩:∃S3,ST n₀ D sv xs S w S3 W3∧SL S3 W3 26 (.slice (some ⟨W2.heap.size,0,none⟩) 4 4) 4∧SL S3 W3 206 (.slice ea m ecap) m∧¬S3 B:=by
  rw[hW3];refine⟨fun b=>S b∨b=W2.heap.size,hs2.allocT (c0u (fun u hu=> ?_)),SL.blk (.inr rfl) (Blk.new _ _ _) (by show 4*2≤8;omega),hse2.mono (fun _ h=> .inl h) (fun b c e hb hc=>⟨c,hc.alloc _,rfl⟩),fun h=> ?_⟩
  ·simp only[List.mem_cons,List.not_mem_nil,or_false] at hu
   rcases hu with rfl|rfl|rfl|rfl|rfl|rfl|rfl|rfl <;> exact⟨_,rfl,(by first|with_reducible (first|exact a0j _|exact a0m _|assumption|exact a0n (by omega))|exact⟨by omega,by omega⟩)⟩
  ·rcases h with h|h
   ·exact n1 h
   ·have:=k2.lt;omega
 have k3:Blk W3 B #[.int .i64 x,.int .i64 y] 26:=by
  rw[hW3];exact k2.alloc _
 obtain⟨lv,hlv⟩:∃v,Value.slice (some ⟨W2.heap.size,0,none⟩) 4 4=v:=⟨_,rfl⟩;rw[hlv] at sl3;rw[hlv];clear hW3 hlv hs2 hse2 k2 z0 z1 hs1 hse1 k1 hg2 he2;go_upto_if 53 with (first
  |(go_at_call 73;refine (hs3.call 2 (by omega) (by omega)).mono ?_;rintro e W4⟨q2,rfl,r0,r1,hs4,hg4,he4⟩;have k4:=k3.kept hg4 (fun e=>d1 (Option.some.inj e).symm);have hse4:=he4.sl hse3;have sl4:=he4.sl sl3;obtain⟨z0,z1,-,-⟩:=pt2 k4)
  |fail)
 clear hs3 hse3 k3 sl3 hg4 he4;by_cases hq:q2=1
 ·subst hq
  go_upto_region 5 with fail;refine a0g (fun W5 hW5=> ?_);obtain⟨S5,hs5,sl5,hse5⟩:∃S5,ST n₀ D sv xs S w S5 W5∧SL S5 W5 26 (.slice (some ⟨W4.heap.size,0,none⟩) 5 5) 5∧SL S5 W5 206 (.slice ea m ecap) m:=by
   rw[hW5];refine⟨fun b=>S3 b∨b=W4.heap.size,hs4.allocT (c0u (fun u hu=> ?_)),SL.blk (.inr rfl) (Blk.new _ _ _) (by show 5*2≤10;omega),hse4.mono (fun _ h=> .inl h) (fun b c e hb hc=>⟨c,hc.alloc _,rfl⟩)⟩;simp only[List.mem_cons,List.not_mem_nil,or_false] at hu;rcases hu with rfl|rfl|rfl|rfl|rfl|rfl|rfl|rfl|rfl|rfl <;> exact⟨_,rfl,(by first|with_reducible (first|exact a0j _|exact a0m _|assumption|exact a0n (by omega))|exact⟨by omega,by omega⟩)⟩
  clear hW5 hs4 hse4 sl4 k4 z0 z1;go_wp2_with (first
   |(go_at_call 126;refine (b4s n₀ D sv xs S5 _ hs5.td _ m hse5 (by omega) _ 5 sl5 (by omega) _ _ (by decide) fa).mono ?_;rintro e W9⟨S9,v9,rfl,⟨m9,hsl9,hm9⟩,ht9,he9⟩)
   |fail)
  go_ret;exact⟨S9,_,rfl,⟨m9,hsl9,hm9⟩,ht9,(hs5.then_ ht9 he9).ev⟩
 ·have hqb:(q2==1)=false:=by simpa using hq
  go_wp2_with (first
   |(go_at_call 126;refine (b4s n₀ D sv xs S3 _ hs4.td _ m hse4 (by omega) _ 4 sl4 (by omega) _ _ (by decide) fa).mono ?_;rintro e W9⟨S9,v9,rfl,⟨m9,hsl9,hm9⟩,ht9,he9⟩)
   |fail)
  go_ret;exact⟨S9,_,rfl,⟨m9,hsl9,hm9⟩,ht9,(hs4.then_ ht9 he9).ev⟩
end
end Go.Proofs.YtfocdbjceedagaaGreatDoor
