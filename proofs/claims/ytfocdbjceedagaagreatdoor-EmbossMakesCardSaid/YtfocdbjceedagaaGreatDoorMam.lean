/-
  Parts.
-/
import Derived.Test.YtfocdbjceedagaaGreatDoorMal
set_option linter.unusedVariables false
set_option linter.unusedSimpArgs false
set_option maxHeartbeats 8000000
set_option maxRecDepth 100000
namespace Go.Proofs.YtfocdbjceedagaaGreatDoor
open Tryz
section
open Go.RowKit Go.Shelf
attribute [local go_sem] Oper.semAt_some
attribute [local go_sem ↓] Go.wp_at_zero Go.wp_at_succ
theorem Ev.adopt {X S0 S:BS}{W0 W:World}(h:Ev X S0 W0 S W){L:Nat}{c:Array Value}{e:TypeId}(hL:W0.heap.size<=L)(hb:Blk W L c e)(hc:TB S W e c):Ev X S0 W0 (λb=>S b\/b=L) W :=
 ⟨λb hb=> .inl (h.sub b hb),λb hb=>by
  rcases hb with hb|rfl
  ·exact h.new b hb
  ·exact .inr hL,h.os,h.tape,h.output,h.size,h.rest,h.shape,λb hb'=>by
  rcases hb' with hb'|rfl
  ·obtain⟨c',e',h1,h2⟩:=h.ok b hb'
   exact⟨c',e',h1,h2.mono (λ_ h=> .inl h) (Shp.refl _ _)⟩
  ·exact⟨c,e,hb,hc.mono (λ_ h=> .inl h) (Shp.refl _ _)⟩⟩
theorem SL.point {S:BS}{W:World}{b off n cap:Nat}(hT:TW S W)(h:SL S W 26 (.slice (some ⟨b,off,none⟩) n cap) n){k:Nat}(hk:k<n):∃x y,W.cell? ⟨b,off+k*2,none⟩=some (.int .i64 x)/\W.cell? ⟨b,off+k*2+1,none⟩=some (.int .i64 y)/\fits x/\fits y:=by
 obtain⟨u0,c0,h0⟩:=h.cell hT a1s hk 0 .int rfl;obtain⟨u1,c1,h1⟩:=h.cell hT a1s hk 1 .int rfl;obtain⟨x,rfl,fx⟩:=h0.i rfl;obtain⟨y,rfl,fy⟩:=h1.i rfl;exact⟨x,y,c0,c1,fx,fy⟩
abbrev edC (id:Int)(lv:Value)(l r:Int):Array Value:= #[.int .i64 id,lv,.int .i64 l,.int .i64 r]
theorem ed4 {W:World}{B:Nat}{id l r:Int}{lv:Value}{t:TypeId}(h:Blk W B (edC id lv l r) t):W.cell? ⟨B,0,none⟩=some (.int .i64 id)/\W.cell? ⟨B,1,none⟩=some lv/\W.cell? ⟨B,2,none⟩=some (.int .i64 l)/\W.cell? ⟨B,3,none⟩=some (.int .i64 r):=⟨h.cell 0,h.cell 1,h.cell 2,h.cell 3⟩
structure T3 (S0:BS)(W0:World)(BE:Nat)(cE:Array Value)(BR:Nat)(cR:Array Value)(BO:Nat)(cO:Array Value)(t:TypeId)(S:BS)(W:World):Prop where
 ev:Ev noB S0 W0 S W
 e:Blk W BE cE t
 r:Blk W BR cR t
 o:Blk W BO cO t
 ne:¬S BE
 nr:¬S BR
 no:¬S BO
 le:W0.heap.size<=BE
 lr:W0.heap.size<=BR
 lo:W0.heap.size<=BO
 d:BE≠BO
 dr:BR≠BO
section
variable {S0 S S':BS}{W0 W W':World}{BE BR BO:Nat}{cE cR cO:Array Value}{t:TypeId}
theorem T3.evo (h:T3 S0 W0 BE cE BR cR BO cO t S W)(he:Ev noB S W S' W'):T3 S0 W0 BE cE BR cR BO cO t S' W':=⟨h.ev.trans he,he.blk h.e h.ne (λh=>h),he.blk h.r h.nr (λh=>h),he.blk h.o h.no (λh=>h),he.not h.e.lt h.ne,he.not h.r.lt h.nr,he.not h.o.lt h.no,h.le,h.lr,h.lo,h.d,h.dr⟩
theorem T3.set (h:T3 S0 W0 BE cE BR cR BO cO t S W)(i:Nat)(v:Value):T3 S0 W0 BE cE BR cR BO (cO.setIfInBounds i v) t S (W.setCell ⟨BO,i,none⟩ v) :=
 ⟨h.ev.own (a0x W BO i v) (λr e=>by cases e;exact⟨h.no,h.lo⟩),h.e.other h.d i v,h.r.other h.dr i v,h.o.set i v,h.ne,h.nr,h.no,h.le,h.lr,h.lo,h.d,h.dr⟩
end
theorem T3.done {S0 S:BS}{W0 W:World}{BE BR BO:Nat}{cE cO:Array Value}{t:TypeId}{a b c d:Value}(h:T3 S0 W0 BE cE BR #[a,b,c,d] BO cO t S W)(x y z u:Value) :
 Ev noB S0 W0 S ((((W.setCell ⟨BR,0,none⟩ x).setCell ⟨BR,1,none⟩ y).setCell ⟨BR,2,none⟩ z).setCell ⟨BR,3,none⟩ u)/\Blk ((((W.setCell ⟨BR,0,none⟩ x).setCell ⟨BR,1,none⟩ y).setCell ⟨BR,2,none⟩ z).setCell ⟨BR,3,none⟩ u) BR #[x,y,z,u] t /\
  Shp S W ((((W.setCell ⟨BR,0,none⟩ x).setCell ⟨BR,1,none⟩ y).setCell ⟨BR,2,none⟩ z).setCell ⟨BR,3,none⟩ u):=by
 have hr:∀r,some BR=some r->¬S r/\W0.heap.size<=r:=λr e=>by cases e;exact⟨h.nr,h.lr⟩
 refine⟨(((h.ev.own (a0x _ BR 0 x) hr).own (a0x _ BR 1 y) hr).own (a0x _ BR 2 z) hr).own (a0x _ BR 3 u) hr,?_,?_⟩
 ·simpa using (((h.r.set 0 x).set 1 y).set 2 z).set 3 u
 ·exact(((Shp.set h.nr 0 x).trans (Shp.set h.nr 1 y) (λ_ h=>h)).trans (Shp.set h.nr 2 z) (λ_ h=>h)).trans (Shp.set h.nr 3 u) (λ_ h=>h)
structure TuI (wr:World)(BE BO b off q:Nat)(id l r:Int)(lv ov:Value)(x y:Int)(W:World):Prop where
 bel:Below wr.heap.size wr W
 e:Blk W BE (edC id lv l r) 206
 o:Blk W BO (edC id ov r l) 206
 x:W.cell? ⟨b,off+q*2,none⟩=some (.int .i64 x)
 y:W.cell? ⟨b,off+q*2+1,none⟩=some (.int .i64 y)
theorem TuI.up {wr W W':World}{BE BO b off q:Nat}{id l r:Int}{lv ov:Value}{x y:Int}(h:TuI wr BE BO b off q id l r lv ov x y W)(hb:Below W.heap.size W W'):TuI wr BE BO b off q id l r lv ov x y W' :=
 ⟨h.bel.trans (hb.mono h.bel.size),h.e.below hb h.e.lt,h.o.below hb h.o.lt,(hb.cell (p:=⟨b,off+q*2,none⟩) (World.block_lt_of_cell? _ _ h.x)).trans h.x,(hb.cell (p:=⟨b,off+q*2+1,none⟩) (World.block_lt_of_cell? _ _ h.y)).trans h.y⟩
def FTu (wr:World)(BE BO b off q n lcap:Nat)(ov:Value)(x y:Int)(i:Nat)(v:Value)(w:World):Prop :=
 match i with
 |0=>v= .pointer (some ⟨BO,1,none⟩)
 |1=>v=ov
 |2=>v= .pointer (some ⟨BE,1,none⟩)
 |3=>v= .slice (some ⟨b,off,none⟩) n lcap
 |4=>v= .int .i64 (q:Nat)
 |5=>v= .pointer (some ⟨b,off+q*2,none⟩)
 |6=>v= .agg #[.int .i64 x,.int .i64 y]
 |7=>∃L,v= .slice (some ⟨L,0,none⟩) 1 1/\wr.heap.size<=L/\Blk w L #[.int .i64 x,.int .i64 y] 26
 |_=>False
theorem FTu.kept {wr:World}{BE BO b off q n lcap:Nat}{ov:Value}{x y:Int}{i:Nat}{v:Value}{w w':World}(h:FTu wr BE BO b off q n lcap ov x y i v w)(hg:Below w.heap.size w w'):FTu wr BE BO b off q n lcap ov x y i v w':=by
 unfold FTu at *;exact yiu
theorem b4q (S:BS)(w:World)(hT:TW S w)(id l r:Int)(lv:Value)(n:Nat)(hsl:SL S w 26 lv n)(hn:n<=100)(fid:fits id)(fl:fits l)(fr:fits r) :
 Calls prog 137 #[.agg (edC id lv l r)] w λe w'=>∃S' v,e= .returned (.agg (edC id v r l))/\SL S' w' 26 v n/\Ev noB S w S' w':=by
 obtain⟨la,lcap,rfl,hnc⟩:=hsl.form;go_enter func137,ntmps137;go_wp2_with fail;have hlt:=λb hb=>hT.lt (b:=b) hb
 have h3:T3 S w w.heap.size (edC id (.slice la n lcap) l r) (w.heap.size+1) edZ (w.heap.size+1+1) (edC id (.slice none 0 0) r l) 206 S (((w.alloc (.cells (edC id (.slice la n lcap) l r) 206)).alloc (.cells edZ 206)).alloc (.cells (edC id (.slice none 0 0) r l) 206)):=by
  have hb:Below w.heap.size w (((w.alloc (.cells (edC id (.slice la n lcap) l r) 206)).alloc (.cells edZ 206)).alloc (.cells (edC id (.slice none 0 0) r l) 206)):=zC;have k1:=Blk.new (w.alloc (.cells (edC id (.slice la n lcap) l r) 206)) edZ 206;have k2:=Blk.new ((w.alloc (.cells (edC id (.slice la n lcap) l r) 206)).alloc (.cells edZ 206)) (edC id (.slice none 0 0) r l) 206;simp only[World.size_alloc]at k1 k2;exact⟨Ev.of_below hT hb,((Blk.new w _ _).alloc _).alloc _,k1.alloc _,k2,λh=>by have:=hlt _ h;omega,λh=>by have:=hlt _ h;omega,λh=>by have:=hlt _ h;omega,yR _,oM,oM,oM,oM⟩
 obtain⟨W1,hW1⟩:=zE ((((w.alloc (.cells (edC id (.slice la n lcap) l r) 206)).alloc (.cells edZ 206)).alloc (.cells (edC id (.slice none 0 0) r l) 206)));rw[hW1]at h3;rw[hW1];clear hW1 hlt;obtain⟨BR,hBR⟩:=zE (w.heap.size+1);obtain⟨BO,hBO⟩:=zE (w.heap.size+1+1);obtain⟨BE,hBE⟩:=zE w.heap.size;rw[hBO,hBR,hBE]at h3;rw[hBO,hBR,hBE];clear hBO hBR hBE;go_loopw [4] (λkk wr=>∃(t:Nat) (S':BS) (ov:Value),t<=n/\kk= .int .i64 ((t:Int)-1)/\SL S' wr 26 ov (n-t)/\T3 S w BE (edC id (.slice la n lcap) l r) BR edZ BO (edC id ov r l) 206 S' wr) (λkk _=>(intOf kk+1).toNat)
 case atStart=>exact⟨n,S,.slice none 0 0,yR _,rfl,by rw[Nat.sub_self];exact SL.nil _ _ _,h3⟩
 case round =>
  clear h3;obtain⟨t,S',ov,ht,hkk,hso,h3⟩:=hrel
  cases t with
  |zero =>
   subst hkk;obtain⟨oa,oc,rfl,-⟩:=hso.form;rw[Nat.sub_zero]at hso h3;obtain⟨o0,o1,o2,o3⟩:=ed4 h3.o;have f0:=h3.r.frozen 0;have f1:=h3.r.frozen 1;have f2:=h3.r.frozen 2;have f3:=h3.r.frozen 3;obtain⟨r0,r1,r2,r3⟩:=ed4 h3.r;obtain⟨hev,hbr,hsh⟩:=h3.done (.int .i64 id) (.slice oa n oc) (.int .i64 r) (.int .i64 l);clear h3;go_wp2_with fail;exact bodyPost_ret (results_cell_row qM _ _ BR 206 _ (0,0) _ qM hbr underlying206 qM zM) rfl ⟨_,_,rfl,hso.mono (λ_ h=>h) hsh,hev⟩
  |succ q =>
   rw[show(((q+1:Nat):Int)-1)=(q:Int)from by omega]at hkk;subst hkk;have hls:=h3.ev.sl hsl;obtain⟨b,off,cap',hab,-,-⟩:=hsl.some_ oM;simp only[Value.slice.injEq,true_and]at hab;obtain⟨rfl,rfl⟩:=hab;obtain⟨x,y,c0,c1,fx,fy⟩:=SL.point h3.ev.ok hls (k:=q) oM;have hq0:0<=(q:Int):=oM;have hqI:(q:Int)<(n:Int):=oM;have hsf:=hso.form;go_upto_region 5 with fail;refine Go.wp_region_rel 8 zM zM (λ_ W=>TuI wr BE BO b off q id l r (.slice (some ⟨b,off,none⟩) n lcap) ov x y W) (λw w'=>Below w.heap.size w w') (FTu wr BE BO b off q n lcap ov x y) (λ_ _ _ _ h g=>h.kept g) ⟨(zR _ _).drew,h3.e.drew,h3.o.drew,c0,c1⟩ ?_ ?_
   ·clear h3 hso hls hsl
    intro i o hi ho c bb W hc hM hA hD K hK;match i,hi,ho with
    |0,_,ho =>
     cases ho;have f3:=a0a (v:= .pointer (some ⟨BO,0,none⟩)) (hA.at_ (k:=3) zM);go_simp;exact hK (.pointer (some ⟨BO,1,none⟩)) W rfl (zR _ _) hM
    |1,_,ho =>
     cases ho;have f20:=a0a (v:= .pointer (some ⟨BO,1,none⟩)) (a0c hD 0 20 zM rfl rfl);have z0:W.cell? ⟨BO,1,none⟩=some (ov):=hM.o.cell 1;go_simp;exact hK (ov) W rfl (zR _ _) hM
    |2,_,ho =>
     cases ho;have f1:=a0a (v:= .pointer (some ⟨BE,0,none⟩)) (hA.at_ (k:=1) zM);go_simp;exact hK (.pointer (some ⟨BE,1,none⟩)) W rfl (zR _ _) hM
    |3,_,ho =>
     cases ho;have f22:=a0a (v:= .pointer (some ⟨BE,1,none⟩)) (a0c hD 2 22 zM rfl rfl);have z0:W.cell? ⟨BE,1,none⟩=some (.slice (some ⟨b,off,none⟩) n lcap):=hM.e.cell 1;go_simp;exact hK (.slice (some ⟨b,off,none⟩) n lcap) W rfl (zR _ _) hM
    |4,_,ho =>
     cases ho;have f4:=a0a (v:= .int .i64 (q:Nat)) (hA.at_ (k:=4) zM);go_simp;exact hK (.int .i64 (q:Nat)) W rfl (zR _ _) hM
    |5,_,ho =>
     cases ho;have f23:=a0a (v:= .slice (some ⟨b,off,none⟩) n lcap) (a0c hD 3 23 zM rfl rfl);have f24:=a0a (v:= .int .i64 (q:Nat)) (a0c hD 4 24 zM rfl rfl);go_simp;exact hK (.pointer (some ⟨b,off+q*2,none⟩)) W rfl (zR _ _) hM
    |6,_,ho =>
     cases ho;have f25:=a0a (v:= .pointer (some ⟨b,off+q*2,none⟩)) (a0c hD 5 25 zM rfl rfl);have z0:W.cell? ⟨b,off+q*2,none⟩=some (.int .i64 x):=hM.x;have z1:W.cell? ⟨b,off+q*2+1,none⟩=some (.int .i64 y):=hM.y;go_simp;exact hK (.agg #[.int .i64 x,.int .i64 y]) W rfl (zR _ _) hM
    |7,_,ho =>
     cases ho;have f26:=a0a (v:= .agg #[.int .i64 x,.int .i64 y]) (a0c hD 6 26 zM rfl rfl);exact yfy
    |i+8,hi,_=>exact absurd hi oM
   ·intro bb W hM hA hall
    obtain⟨L,hP7,hLl,kL⟩:=(show ∃L,bb.eval (.tmp 27)= .slice (some ⟨L,0,none⟩) 1 1/\wr.heap.size<=L/\Blk W L #[.int .i64 x,.int .i64 y] 26 from hall 7 oM _ _ rfl rfl);have hP1:bb.eval (.tmp 21)=ov:=hall 1 oM _ _ rfl rfl;have hfr:=hA.frame (rT 20 (rF 8 (rT 3 ([])))) _ rfl zM;clear hall hA;obtain⟨f,hf⟩:∃f:Nat->Value,(λk=>bb.tmps.getD k undef)=f:=⟨_,rfl⟩;have g27:f 27= .slice (some ⟨L,0,none⟩) 1 1:=by rw[<-hf,<-hP7];rfl
    have g21:f 21=ov:=by rw[<-hf,<-hP1];rfl
    rw[hf]at hfr;clear hf hP7 hP1;subst hfr;simp only[rT,rF,a1z,g27,g21,Nat.reduceAdd];clear g27 g21;simp only[zU];have hE1:Ev noB S' wr (λb=>S' b\/b=L) W:=(Ev.of_below h3.ev.ok hM.bel).adopt hLl kL (a5m fx fy);have h4:=h3.evo hE1;have hso4:=hE1.sl hso;have slL:SL (λb=>S' b\/b=L) W 26 (.slice (some ⟨L,0,none⟩) 1 1) 1:=SL.blk (.inr rfl) kL (by show 1*2<=2;omega);have hno:=h3.no;clear h3 hso hls hM hE1;go_wp2_with (first
     |(at_builtin;refine a1k (X:=noB) h4.ev.ok qM _ _ 147 qM underlying147 a1s qM hso4 qM slL oM ?_;intro v9 S9 w9 hsl9 he9;obtain⟨a9,c9,rfl,-⟩:=hsl9.form;have h5:=h4.evo he9;obtain⟨-,o1,-,-⟩:=ed4 h5.o;have fo1:=h5.o.frozen 1))
    go_roundw
    case rel=>exact⟨q,_,_,oM,by first|rfl|go_num,by rw[show n-q=n-(q+1)+1 from by omega];exact SL.mono hsl9 (λ_ h=>h) (Shp.set h5.no _ _),by have h6:=h5.set 1 (.slice a9 (n-(q+1)+1) c9);simpa using h6⟩
    case measure=>simp[intOf];try omega
theorem b6c (n₀ D:Nat)(sv:Value)(xs:List Int)(S:BS)(w:World)(h:TD S n₀ D sv xs w)(ev:Value)(m:Nat)(hse:SL S w 206 ev m)(hm:m<=100)(lv:Value)(n:Nat)(hsl:SL S w 26 lv n)(hn:n<=100)(l r:Int)(fl:fits l)(fr:fits r) :
 Calls prog 126 #[ev,lv,.int .i64 l,.int .i64 r,.pointer (some ⟨D,0,none⟩)] w λe w'=>∃S' v,e= .returned v/\(∃m',SL S' w' 206 v m'/\m'<=m+1)/\TD S' n₀ D sv xs w'/\Ev (b0f D) S w S' w':=by
 obtain⟨ea,ecap,rfl,hec⟩:=hse.form;by_cases hlr:l=r
 ·subst hlr
  go_enter func126,ntmps126;go_wp2_with fail;go_ret;exact⟨S,_,rfl,⟨m,hse,oM⟩,h,Ev.refl h.tw⟩
 ·have hlrb:(l==r)=false:=by simpa using hlr
  obtain⟨la,lcap,rfl,hlc⟩:=hsl.form;have hlt:=λb hb=>h.tw.lt (b:=b) hb
  have hDl:=h.lt;go_enter func126,ntmps126;go_upto_region 4 with fail;refine a0n (λW1 hW1=> ?_);have hs1:ST n₀ D sv xs S w S W1:=by
   rw[hW1];exact h.st.alloc _
  have k1:Blk W1 w.heap.size (edC ((m:Int)+1) (.slice la n lcap) l r) 206:=by
   rw[hW1];exact Blk.new _ _ _
  have hse1:SL S W1 206 (.slice ea m ecap) m:=hs1.ev.sl hse;have hsl1:SL S W1 26 (.slice la n lcap) n:=hs1.ev.sl hsl;clear hW1;have n1:¬S w.heap.size:=λhb=>Nat.lt_irrefl _ (hlt _ hb)
  have d1:w.heap.size≠D:=oM;have le1:w.heap.size<=w.heap.size:=yR _;obtain⟨B,hB⟩:=zE w.heap.size;have le2:w.heap.size<=B:=oM;rw[hB]at k1 n1 d1;rw[hB];clear hB hlt hDl le1;have fid:fits ((m:Int)+1):=⟨oM,oM⟩;go_upto_if 25 with(first
   |(go_at_call 73;refine(hs1.call 2 oM oM).mono ?_;rintro e W2⟨q,rfl,q0,q1,hs2,hg2,he2⟩;have k2:=k1.kept hg2 (λe=>d1 (Option.some.inj e).symm);have hse2:=he2.sl hse1;have hsl2:=he2.sl hsl1))
  have hsz:=hs2.ev.size;clear hs1 hg2 he2 hse1 hsl1 k1;by_cases hq:q=1
  ·subst hq
   obtain⟨z0,z1,z2,z3⟩:=ed4 k2;go_upto_region 6 with(first
    |(go_at_call 137;refine(b4q S W2 hs2.td.tw _ _ _ _ n hsl2 hn fid fl fr).mono ?_;rintro e W3⟨S3,v3,rfl,hsl3,he3⟩;obtain⟨a3,c3,rfl,-⟩:=hsl3.form;have hs3:=hs2.evo he3;have k3:=he3.blk k2 n1 (λh=>h);have hse3:=he3.sl hse2;have n3:=he3.not k2.lt n1;obtain⟨z0,z1,z2,z3⟩:=ed4 k3;have f0:=k3.frozen 0;have f1:=k3.frozen 1;have f2:=k3.frozen 2;have f3:=k3.frozen 3))
   refine a0n (λW4 hW4=> ?_);have hs4:ST n₀ D sv xs S w S3 W4:=by
    rw[hW4];exact(((hs3.own le2 n3 d1 0 _).own le2 n3 d1 1 _).own le2 n3 d1 2 _).own le2 n3 d1 3 _
   have k4:Blk W4 B (edC ((m:Int)+1) (.slice a3 n c3) r l) 206:=by
    rw[hW4];simpa using (((k3.set 0 (.int .i64 ((m:Int)+1))).set 1 (.slice a3 n c3)).set 2 (.int .i64 r)).set 3 (.int .i64 l)
   have hsh:Shp S3 W3 W4:=by
    rw[hW4];exact(((Shp.set n3 0 _).trans (Shp.set n3 1 _) (λ_ h=>h)).trans (Shp.set n3 2 _) (λ_ h=>h)).trans (Shp.set n3 3 _) (λ_ h=>h)
   have hse4:=hse3.mono (λ_ h=>h) hsh;have hsl4:=hsl3.mono (λ_ h=>h) hsh;clear hW4 z0 z1 z2 z3 f0 f1 f2 f3 k3 k2 hs3 hs2 hse3 hse2 hsl2 hsl3 he3 hsh;obtain⟨z0,z1,z2,z3⟩:=ed4 k4;go_wp2_with (first
    |(at_builtin;refine a0y hs4.td.tw qM _ _ 32 qM underlying32 a1y qM hse4 qM rfl (b2q fid fr fl hsl4 hn) rfl oM ?_;intro v9 S9 w9 hsl9 he9))
   go_ret;exact⟨S9,_,rfl,⟨m+1,hsl9,oM⟩,(hs4.evo he9).td,(hs4.evo he9).ev⟩
  ·have hqb:(q==1)=false:=by simpa using hq
   obtain⟨z0,z1,z2,z3⟩:=ed4 k2;go_wp2_with (first
    |(at_builtin;refine a0y hs2.td.tw qM _ _ 32 qM underlying32 a1y qM hse2 qM rfl (b2q fid fl fr hsl2 hn) rfl oM ?_;intro v9 S9 w9 hsl9 he9))
   go_ret;exact⟨S9,_,rfl,⟨m+1,hsl9,oM⟩,(hs2.evo he9).td,(hs2.evo he9).ev⟩
theorem c4r {S:BS}{W:World}{c:Array Value}(h:∀u∈c.toList,∃x,u= .int .i64 x/\fits x):TB S W 26 c:=λi u ct h1 h2=>by
 obtain⟨x,rfl,hx⟩:=h u (by rw[<-Array.getElem?_toList]at h1;exact List.mem_of_getElem? h1);rw[show a7q 26=2 from rfl]at h2;rcases Nat.mod_two_eq_zero_or_one i with e|e
 ·rw[e]at h2
  cases h2;exact CT.ok_int hx
 ·rw[e]at h2
  cases h2;exact CT.ok_int hx
theorem c5v (n₀ D:Nat)(sv:Value)(xs:List Int)(S:BS)(w:World)(h:TD S n₀ D sv xs w)(ev:Value)(m:Nat)(hse:SL S w 206 ev m)(hm:m<=99)(x y a:Int)(fx:fits x)(fy:fits y)(fa:fits a) :
 Calls prog 130 #[ev,.agg #[.int .i64 x,.int .i64 y],.int .i64 a,.pointer (some ⟨D,0,none⟩)] w λe w'=>∃S' v,e= .returned v/\(∃m',SL S' w' 206 v m'/\m'<=m+1)/\TD S' n₀ D sv xs w'/\Ev (b0f D) S w S' w':=by
 have hlt:=λb hb=>h.tw.lt (b:=b) hb
 have hDl:=h.lt;obtain⟨ea,ecap,rfl,hec⟩:=hse.form;go_enter func130,ntmps130;go_upto_region 1 with fail;refine a0n (λW1 hW1=> ?_);have hs1:ST n₀ D sv xs S w S W1:=by
  rw[hW1];exact h.st.alloc _
 have k1:Blk W1 w.heap.size #[.int .i64 x,.int .i64 y] 26:=by
  rw[hW1];exact Blk.new _ _ _
 have hse1:SL S W1 206 (.slice ea m ecap) m:=hs1.ev.sl hse;clear hW1;have n1:¬S w.heap.size:=λhb=>Nat.lt_irrefl _ (hlt _ hb)
 have d1:w.heap.size≠D:=oM;obtain⟨B,hB⟩:=zE w.heap.size;rw[hB]at k1 n1 d1;rw[hB];clear hB hlt hDl;go_upto_region 3 with(first
  |(go_at_call 73;refine(hs1.call 8 oM oM).mono ?_;rintro e W2⟨q,rfl,q0,q1,hs2,hg2,he2⟩;have k2:=k1.kept hg2 (λe=>d1 (Option.some.inj e).symm);have hse2:=he2.sl hse1;obtain⟨z0,z1,-,-⟩:=pt2 k2))
 refine a0n (λW3 hW3=> ?_);obtain⟨S3,hs3,sl3,hse3,n3⟩:∃S3,ST n₀ D sv xs S w S3 W3/\SL S3 W3 26 (.slice (some ⟨W2.heap.size,0,none⟩) 4 4) 4/\SL S3 W3 206 (.slice ea m ecap) m/\¬S3 B:=by
  rw[hW3];refine⟨λb=>S b\/b=W2.heap.size,hs2.allocT (c4r (λu hu=> ?_)),SL.blk (.inr rfl) (Blk.new _ _ _) (by show 4*2<=8;omega),hse2.mono (λ_ h=> .inl h) (λb c e hb hc=>⟨c,hc.alloc _,rfl⟩),λh=> ?_⟩
  ·simp only[List.mem_cons,List.not_mem_nil,or_false]at hu
   rcases hu with rfl|rfl|rfl|rfl|rfl|rfl|rfl|rfl <;> exact⟨_,rfl,zF⟩
  ·rcases h with h|h
   ·exact n1 h
   ·have:=k2.lt;omega
 have k3:Blk W3 B #[.int .i64 x,.int .i64 y] 26:=by
  rw[hW3];exact k2.alloc _
 obtain⟨lv,hlv⟩:=zE (Value.slice (some ⟨W2.heap.size,0,none⟩) 4 4);rw[hlv]at sl3;rw[hlv];clear hW3 hlv hs2 hse2 k2 z0 z1 hs1 hse1 k1 hg2 he2;go_upto_if 53 with(first
  |(go_at_call 73;refine(hs3.call 2 oM oM).mono ?_;rintro e W4⟨q2,rfl,r0,r1,hs4,hg4,he4⟩;have k4:=k3.kept hg4 (λe=>d1 (Option.some.inj e).symm);have hse4:=he4.sl hse3;have sl4:=he4.sl sl3;obtain⟨z0,z1,-,-⟩:=pt2 k4))
 clear hs3 hse3 k3 sl3 hg4 he4;by_cases hq:q2=1
 ·subst hq
  go_upto_region 5 with fail;refine a0n (λW5 hW5=> ?_);obtain⟨S5,hs5,sl5,hse5⟩:∃S5,ST n₀ D sv xs S w S5 W5/\SL S5 W5 26 (.slice (some ⟨W4.heap.size,0,none⟩) 5 5) 5/\SL S5 W5 206 (.slice ea m ecap) m:=by
   rw[hW5];refine⟨λb=>S3 b\/b=W4.heap.size,hs4.allocT (c4r (λu hu=> ?_)),SL.blk (.inr rfl) (Blk.new _ _ _) (by show 5*2<=10;omega),hse4.mono (λ_ h=> .inl h) (λb c e hb hc=>⟨c,hc.alloc _,rfl⟩)⟩;simp only[List.mem_cons,List.not_mem_nil,or_false]at hu;rcases hu with rfl|rfl|rfl|rfl|rfl|rfl|rfl|rfl|rfl|rfl <;> exact⟨_,rfl,zF⟩
  clear hW5 hs4 hse4 sl4 k4 z0 z1;go_wp2_with (first
   |(go_at_call 126;refine(b6c n₀ D sv xs S5 _ hs5.td _ m hse5 oM _ 5 sl5 oM _ _ jM fa).mono ?_;rintro e W9⟨S9,v9,rfl,⟨m9,hsl9,hm9⟩,ht9,he9⟩))
  go_ret;exact⟨S9,_,rfl,⟨m9,hsl9,hm9⟩,ht9,(hs5.then_ ht9 he9).ev⟩
 ·have hqb:(q2==1)=false:=by simpa using hq
  go_wp2_with (first
   |(go_at_call 126;refine(b6c n₀ D sv xs S3 _ hs4.td _ m hse4 oM _ 4 sl4 oM _ _ jM fa).mono ?_;rintro e W9⟨S9,v9,rfl,⟨m9,hsl9,hm9⟩,ht9,he9⟩))
  go_ret;exact⟨S9,_,rfl,⟨m9,hsl9,hm9⟩,ht9,(hs4.then_ ht9 he9).ev⟩
theorem SL.int {S:BS}{W:World}{b off n cap:Nat}(hT:TW S W)(h:SL S W 3 (.slice (some ⟨b,off,none⟩) n cap) n){k:Nat}(hk:k<n):∃x,W.cell? ⟨b,off+k,none⟩=some (.int .i64 x)/\fits x:=by
 obtain⟨u0,c0,h0⟩:=h.cell hT a7j hk 0 .int rfl;obtain⟨x,rfl,fx⟩:=h0.i rfl;rw[Nat.mul_one,Nat.add_zero]at c0;exact⟨x,c0,fx⟩
theorem b3t {S:BS}{w:World}(hT:TW S w){ops:Array Oper}{o:Oper}{a:Act}{K:Act->World->Prop}{Q:Exit->Act->World->Prop}{E:Prop}(hgd:o.guard=none)(sO xO:Operand)(t:TypeId)(ho:o.op= .call { callee:= .builtin .append,args:= #[sO,xO],argTypes:= #[t,t] })
 {e:TypeId} {s:Nat} (ht:prog.underlying t=some (.slice e)) (he:ET e s) {sv xv:Value} {n m:Nat} (hsv:a.eval sO=sv) (hv:SL S w e sv n) (hxv:a.eval xO=xv) (hx:SL S w e xv m) (hl:n+m<=1000000)
 (h:∀v' S' w',SL S' w' e v' (n+m)->Ev noB S w S' w'->K (a.put o.dst v') w'):if Region.wanted o (yielded ops a.tmps)=true then Oper.wp prog o a w K Q else E:=by
 rw[if_pos (by simp[Region.wanted,hgd])];exact b0e (X:=noB) hT sO xO t ho ht he hsv hv hxv hx hl h
theorem b6d {S:BS}{w:World}{t e:TypeId}{s:Nat}(ht:prog.underlying t=some (.slice e))(he:ET e s){v:Value}{n k:Nat}(hv:SL S w e v n)(hk:k<=n) :
 ∃v',(Instr.sliceAt t v (some (.int .i64 (k:Nat))) none none).run prog w= .ok v' w/\SL S w e v' (n-k):=by
 obtain⟨i,z,hi,hz,hsz,-⟩:=he.info;have hv2:=hv;obtain⟨a,cap,rfl,hn,h⟩:=hv;have hkI:(0:Int)<=(k:Int)/\(k:Int)<=(n:Int):=oM;have hk2:¬n<k:=oM;have hr:(Instr.sliceAt t (.slice a n cap) (some (.int .i64 (k:Nat))) none none).run prog w= .ok (.slice (if cap=k then a else a.map (·.add (k*s))) (n-k) (cap-k)) w:=by
  exact yhh
 refine⟨_,hr,?_⟩;rcases h with⟨rfl,rfl⟩|⟨b,o,c,rfl,hb,hc,hl⟩
 ·have:k=0:=oM
  subst this;have:n=0:=oM;subst this;exact hv2
 ·by_cases hck:cap=k
  ·rw[if_pos hck]
   exact hv2.drop he.size hk (.inr ⟨hck.symm,rfl⟩)
  ·rw[if_neg hck]
   have hx:(some (⟨b,o*a7q e,none⟩:Addr)).map (·.add (k*s))=some ⟨b,o*a7q e+k*s,none⟩:=by simp[Addr.add]
   rw[hx];exact hv2.drop he.size hk (.inl rfl)
theorem b3u {S:BS}{w:World}{t e:TypeId}{s:Nat}(ht:prog.underlying t=some (.slice e))(he:ET e s){v:Value}{n k:Nat}(hv:SL S w e v n)(hk:k<=n) :
 ∃v',(Instr.sliceAt t v none (some (.int .i64 (k:Nat))) none).run prog w= .ok v' w/\SL S w e v' k:=by
 obtain⟨i,z,hi,hz,hsz,-⟩:=he.info;have hv2:=hv;obtain⟨a,cap,rfl,hn,h⟩:=hv;have hkI:(0:Int)<=(k:Int)/\(k:Int)<=(cap:Int):=oM;have hk2:¬cap<k:=oM;have hr:(Instr.sliceAt t (.slice a n cap) none (some (.int .i64 (k:Nat))) none).run prog w= .ok (.slice (if cap=0 then a else a.map (·.add (0*s))) (k-0) (cap-0)) w:=by
  exact yhh
 refine⟨_,hr,?_⟩;have hx:(if cap=0 then a else a.map (·.add (0*s)))=a:=by
  split
  ·rfl
  ·cases a with
   |none=>rfl
   |some ad=>simp[Addr.add]
 rw[hx,Nat.sub_zero,Nat.sub_zero];exact hv2.take hk
theorem b0g {S:BS}{w:World}{o:Oper}{a:Act}{K:Act->World->Prop}{Q:Exit->Act->World->Prop}(t:TypeId)(xO lO:Operand)(ho:o.op= .slice t xO (some lO) none none){e:TypeId}{s:Nat}(ht:prog.underlying t=some (.slice e))(he:ET e s){v:Value}{n k:Nat}
 (hx:a.eval xO=v) (hlo:a.eval lO= .int .i64 (k:Nat)) (hv:SL S w e v n) (hk:k<=n) (h:∀v',SL S w e v' (n-k)->K (a.put o.dst v') w):Oper.wp prog o a w K Q:=by
 obtain⟨v',hr,h2⟩:=b6d ht he hv hk;unfold Oper.wp execOp;simp only[ho,Option.map_some,Option.map_none,hx,hlo,Sem.run_bind,hr];simp only[Result.andThen_ok,Sem.run_pure];exact h v' h2
theorem b6e {S:BS}{w:World}{o:Oper}{a:Act}{K:Act->World->Prop}{Q:Exit->Act->World->Prop}(t:TypeId)(xO hO:Operand)(ho:o.op= .slice t xO none (some hO) none){e:TypeId}{s:Nat}(ht:prog.underlying t=some (.slice e))(he:ET e s){v:Value}{n k:Nat}
 (hx:a.eval xO=v) (hhi:a.eval hO= .int .i64 (k:Nat)) (hv:SL S w e v n) (hk:k<=n) (h:∀v',SL S w e v' k->K (a.put o.dst v') w):Oper.wp prog o a w K Q:=by
 obtain⟨v',hr,h2⟩:=b3u ht he hv hk;unfold Oper.wp execOp;simp only[ho,Option.map_some,Option.map_none,hx,hhi,Sem.run_bind,hr];simp only[Result.andThen_ok,Sem.run_pure];exact h v' h2
theorem a5e {S:BS}{w:World}{ops:Array Oper}{rest:List Oper}{o:Oper}{a:Act}{Q:Exit->Act->World->Prop}(hgd:o.guard=none)(t:TypeId)(xO hO:Operand)(ho:o.op= .slice t xO none (some hO) none){e:TypeId}{s:Nat}(ht:prog.underlying t=some (.slice e))(he:ET e s){v:Value}{n k:Nat}
 (hx:a.eval xO=v) (hhi:a.eval hO= .int .i64 (k:Nat)) (hv:SL S w e v n) (hk:k<=n) (h:∀v',SL S w e v' k->wpList prog ops Q rest (a.put o.dst v') w):wpList prog ops Q (o::rest) a w :=
 wpList_plain hgd λ_ hK=>b6e t xO hO ho ht he hx hhi hv hk λv' h2=>hK _ _ (h v' h2)
def FPu (lv ov:Value)(n q:Nat)(x:Int)(i:Nat)(v:Value)(S:BS)(w:World):Prop :=
 match i with
 |0=>v=ov
 |1=>v= .int .i64 x
 |2=>SL S w 3 v 1
 |3=>SL S w 3 v (q+1)
 |4=>v=lv
 |5=>v= .int .i64 (q:Nat)
 |6=>SL S w 3 v (n-q)
 |_=>False
theorem FPu.kept {lv ov:Value}{n q:Nat}{x:Int}{i:Nat}{v:Value}{S S':BS}{w w':World}(h:FPu lv ov n q x i v S w)(hg:Ev noB S w S' w'):FPu lv ov n q x i v S' w':=by
 unfold FPu at *;split at h
 all_goals first|exact h|exact hg.sl h
theorem b6f (S:BS)(w:World)(hT:TW S w)(lv:Value)(n:Nat)(hsl:SL S w 3 lv n)(hn:n<=1000)(x:Int)(fx:fits x) :
 Calls prog 164 #[lv,.int .i64 x] w λe w'=>∃S' v,e= .returned v/\(∃n',SL S' w' 3 v n'/\n'<=n+1)/\Ev noB S w S' w':=by
 obtain⟨a,cap,hlv,hnc⟩:=hsl.form;by_cases hn0:n=0
 ·subst hn0
  subst hlv;go_enter func164,ntmps164;go_wp2_with fail;refine wp_loop_rounds 1 ?_;rw[rounds_succ];obtain⟨wr,hwr⟩:∃W,W=w:=⟨_,rfl⟩;have evr:Ev noB S w S wr:=by rw[hwr];exact Ev.refl hT
  rw[<-hwr];clear hwr;go_upto_region 6 with fail;have hA1:=Ev.alloc (X:=noB) evr.ok (c4q (S:=S) (W:=wr) (e:=3));have slE:SL (λb=>S b\/b=wr.heap.size) (wr.alloc (.cells #[] 3)) 3 (.slice (some ⟨wr.heap.size,0,none⟩) 0 0) 0:=SL.blk (.inr rfl) (Blk.new _ _ _) vM;have hslA:=(evr.trans hA1).sl hsl;go_upto_region 7 with(first
   |(refine a5e qM 51 _ _ qM underlying51 a7j qM qM hslA (yR 0) ?_;intro v38 h38)
   |(at_builtin;refine a1k (X:=noB) hA1.ok qM _ _ 51 qM underlying51 a7j qM slE qM h38 oM ?_;intro v6 S6 W6 hsl6 he6))
  have ev6:=(evr.trans hA1).trans he6;have hslL:=ev6.sl hsl;rw[Nat.zero_add]at hsl6;refine Go.wp_region_reln 7 zM zM (λ_ g W=>Ev noB S6 W6 g W) (λg W g' W'=>Ev noB g W g' W') (FPu (Value.slice a 0 cap) v6 0 0 x) (λ_ _ _ _ _ _ h g=>h.kept g) S6 (Ev.drew ev6.ok) ?_ ?_
  ·clear hslA slE hA1 he6 evr
   intro i o hi ho c bb g W hc hM hA hD K hK;match i,hi,ho with
   |0,_,ho =>
    exact ygy
   |1,_,ho =>
    exact yft
   |2,_,ho =>
    exact yde
   |3,_,ho =>
    exact ydp
   |4,_,ho =>
    cases ho;have f0:bb.tmps[0]?.getD undef=(Value.slice a 0 cap):=a0a (v:=(Value.slice a 0 cap)) (hA.at_ (k:=0) zM);go_simp;exact hK (Value.slice a 0 cap) g W rfl (Ev.refl hM.ok) hM
   |5,_,ho =>
    cases ho;have f5:bb.tmps[5]?.getD undef= .int .i64 ((0:Nat):Int):=a0a (v:= .int .i64 ((0:Nat):Int)) (hA.at_ (k:=5) zM);go_simp;exact hK (.int .i64 ((0:Nat):Int)) g W rfl (Ev.refl hM.ok) hM
   |6,_,ho =>
    cases ho;have f44:bb.eval (.tmp 44)=(Value.slice a 0 cap):=a0d hD 4 44 zM rfl rfl;have f45:bb.eval (.tmp 45)= .int .i64 ((0:Nat):Int):=a0d hD 5 45 zM rfl rfl;rw[if_pos (by simp[Region.wanted])];exact b0g 51 _ _ rfl underlying51 a7j f44 f45 (hM.sl hslL) (yR 0) (λv' h1=>hK v' g W h1 (Ev.refl hM.ok) hM)
   |i+7,hi,_=>exact absurd hi oM
  ·intro bb g W hM hA hall
   have h3:SL g W 3 (bb.eval (.tmp 43)) (0+1):=hall 3 oM _ _ rfl rfl;have h6:SL g W 3 (bb.eval (.tmp 46)) (0-0):=hall 6 oM _ _ rfl rfl;obtain⟨va,hva⟩:=zE (bb.eval (.tmp 43));obtain⟨vb,hvb⟩:=zE (bb.eval (.tmp 46));rw[hva]at h3;rw[hvb]at h6;have hfr:=hA.frame (rT 40 (rF 7 (rT 1 ([])))) _ rfl zM;clear hall hA;obtain⟨f,hf⟩:∃f:Nat->Value,(λk=>bb.tmps.getD k undef)=f:=⟨_,rfl⟩;have g43:f 43=va:=by rw[<-hf,<-hva];rfl
   have g46:f 46=vb:=by rw[<-hf,<-hvb];rfl
   rw[hf]at hfr;clear hf hva hvb;subst hfr;simp only[rT,rF,a1z,g43,g46,Nat.reduceAdd];clear g43 g46;simp only[zU];go_wp2_with (first
    |(at_builtin;refine a1k (X:=noB) hM.ok qM _ _ 51 qM underlying51 a7j qM h3 qM h6 oM ?_;intro v9 S9 w9 hsl9 he9))
   go_ret;exact⟨S9,_,rfl,⟨0+1+(0-0),hsl9,oM⟩,(ev6.trans hM).trans he9⟩
 ·obtain⟨b,off,cap',hab,-,-⟩:=hsl.some_ oM
  rw[hlv]at hab;simp only[Value.slice.injEq,true_and]at hab;obtain⟨rfl,rfl⟩:=hab;subst hlv;go_enter func164,ntmps164;go_wp2_with fail;go_loopw [5] (λkk wr=>∃t:Nat,t<=n/\kk= .int .i64 (t:Nat)/\Below w.heap.size w wr) (λkk _=>(intOf kk).toNat)
  case atStart=>exact⟨n,yR _,rfl,zR _ _⟩
  case round =>
   obtain⟨t,ht,rfl,hB⟩:=hrel;have evr:=Ev.of_below (X:=noB) hT hB;have hslr:=evr.sl hsl;have hstop:t=0\/(0<t/\∃y,wr.cell? ⟨b,off+(t-1),none⟩=some (.int .i64 y)):=by
    by_cases h:t=0
    ·exact .inl h
    ·obtain⟨y,c0,fy⟩:=SL.int evr.ok hslr (k:=t-1) oM
     exact .inr ⟨oM,y,c0⟩
   have hin:t<n->∃z,wr.cell? ⟨b,off+t,none⟩=some (.int .i64 z):=λh=>by
    obtain⟨y,c0,fy⟩:=SL.int evr.ok hslr h;exact⟨y,c0⟩
   rcases hstop with h0|⟨h0,y,cy⟩
   ·have hpos:¬(0:Int)<(t:Int):=oM
    clear h0;by_cases htn:t<n
    ·obtain⟨z,cz⟩:=hin htn
     have htnI:(t:Int)<(n:Int):=oM;by_cases hzx:z=x
     ·exact yiq
     ·have hzb:(z==x)=false:=by simpa using hzx
      go_upto_region 6 with fail;clear hin cz;exact yab
    ·exfalso
     omega
   ·have hpos:(0:Int)<(t:Int):=oM
    have htI:(t:Int)-1<(n:Int):=oM;have htJ:0<=(t:Int)-1:=oM;by_cases hyx:x<=y
    ·go_wp2_with fail
     go_roundw
     case rel=>exact⟨t-1,oM,by first|rfl|(congr 1;omega),hB⟩
     case measure=>simp[intOf];try omega
    ·by_cases htn:t<n
     ·obtain⟨z,cz⟩:=hin htn
      have htnI:(t:Int)<(n:Int):=oM;by_cases hzx:z=x
      ·exact yiq
      ·have hzb:(z==x)=false:=by simpa using hzx
       go_upto_region 6 with fail;clear hin cz cy;exact yab
     ·have htnI:¬(t:Int)<(n:Int):=oM
      go_upto_region 6 with fail;clear hin cy;exact yab
theorem c4s {S:BS}{W:World}{id:Int}(hi:fits id):TB S W 140 #[.int .i64 id,.string ⟨#[]⟩,.string ⟨#[]⟩,.int .i64 0,.int .i64 0]:=c2a rfl rfl λi u ct h1 h2=>by
 match i,h1,h2 with
 |0,h1,h2=>cases h1;cases h2;exact CT.ok_int hi
 |1,h1,h2=>cases h1;cases h2;exact CT.ok_str jM
 |2,h1,h2=>cases h1;cases h2;exact CT.ok_str jM
 |3,h1,h2=>cases h1;cases h2;exact CT.ok_int ⟨jM,jM⟩
 |4,h1,h2=>cases h1;cases h2;exact CT.ok_int ⟨jM,jM⟩
 |i+5,h1,_=>simp at h1
theorem SL.edge {S:BS}{W:World}{b off n cap:Nat}(hT:TW S W)(h:SL S W 206 (.slice (some ⟨b,off,none⟩) n cap) n){k:Nat}(hk:k<n):∃id l r lv m,W.cell? ⟨b,off+k*4,none⟩=some (.int .i64 id)/\W.cell? ⟨b,off+k*4+1,none⟩=some lv/\W.cell? ⟨b,off+k*4+2,none⟩=some (.int .i64 l)/\W.cell? ⟨b,off+k*4+3,none⟩=some (.int .i64 r)/\fits id/\fits l/\fits r/\SL S W 26 lv m/\m<=100:=by
 obtain⟨u0,c0,h0⟩:=h.cell hT a1y hk 0 .int rfl;obtain⟨u1,c1,h1⟩:=h.cell hT a1y hk 1 (.sl 26) rfl;obtain⟨u2,c2,h2⟩:=h.cell hT a1y hk 2 .int rfl;obtain⟨u3,c3,h3⟩:=h.cell hT a1y hk 3 .int rfl;exact yfu
theorem c9d (S:BS)(w:World)(hT:TW S w)(ev:Value)(m:Nat)(hse:SL S w 206 ev m)(hm:m<=100) :
 Calls prog 131 #[ev] w λe w'=>∃S' v,e= .returned v/\(∃n',SL S' w' 140 v n'/\n'<=200)/\Ev noB S w S' w':=by
 obtain⟨ea,ecap,rfl,hec⟩:=hse.form;go_enter func131,ntmps131;go_wp2_with fail;go_loopw [3,4] (λv kk wr=>∃(k n:Nat) (S':BS),k<=m/\kk= .int .i64 (k:Nat)/\n<=2*k/\SL S' wr 3 v n/\Ev noB S w S' wr) (λ_ kk _=>m-(intOf kk).toNat)
 case atStart=>exact⟨0,0,S,Nat.zero_le _,rfl,oM,SL.nil _ _ _,Ev.refl hT⟩
 case round =>
  obtain⟨k,n,S1,hk,rfl,hn,hsv,hev⟩:=hrel;by_cases hlt:k<m
  ·have hltI:(k:Int)<(m:Int):=oM
   obtain⟨b,off,cap',hab,-,-⟩:=hse.some_ oM;simp only[Value.slice.injEq,true_and]at hab;obtain⟨rfl,rfl⟩:=hab;obtain⟨id,l,r,lv,q,c0,c1,c2,c3,f0,f1,f2,hlv,hq⟩:=SL.edge hev.ok (hev.sl hse) hlt;have hl2:=hlv;clear hlv c0 c1;by_cases hl0:l=0
   ·have hlb:(l != 0)=false:=by simp[hl0]
    go_upto_region 7 with fail;clear c2;by_cases hr0:r=0
    ·have hrb:(r != 0)=false:=by simp[hr0]
     go_wp2_with fail;go_roundw
     case rel=>exact⟨k+1,n,S1,oM,by go_num,oM,hsv,hev⟩
     case measure=>simp[intOf];omega
    ·have hrb:(r != 0)=true:=by simp[hr0]
     go_wp2_with (first
      |(go_at_call 164;refine(b6f S1 _ hev.ok _ n hsv oM r f2).mono ?_;rintro e W2⟨S2,v2,rfl,⟨n2,hs2,hn2⟩,he2⟩))
     go_roundw
     case rel=>exact⟨k+1,n2,S2,oM,by go_num,oM,hs2,hev.trans he2⟩
     case measure=>simp[intOf];omega
   ·have hlb:(l != 0)=true:=by simp[hl0]
    go_upto_region 7 with(first
     |(go_at_call 164;refine(b6f S1 _ hev.ok _ n hsv oM l f1).mono ?_;rintro e W2⟨S2,v2,rfl,⟨n2,hs2,hn2⟩,he2⟩))
    have hev2:=hev.trans he2;clear c2 c3 f2;obtain⟨id',l',r',lv',q',-,-,-,c3,-,-,f2,-,-⟩:=SL.edge hev2.ok (hev2.sl hse) hlt;by_cases hr0:r'=0
    ·have hrb:(r' != 0)=false:=by simp[hr0]
     go_wp2_with fail;go_roundw
     case rel=>exact⟨k+1,n2,S2,oM,by go_num,oM,hs2,hev2⟩
     case measure=>simp[intOf];omega
    ·have hrb:(r' != 0)=true:=by simp[hr0]
     go_wp2_with (first
      |(go_at_call 164;refine(b6f S2 _ hev2.ok _ n2 hs2 oM r' f2).mono ?_;rintro e W3⟨S3,v3,rfl,⟨n3,hs3,hn3⟩,he3⟩))
     go_roundw
     case rel=>exact⟨k+1,n3,S3,oM,by go_num,oM,hs3,hev2.trans he3⟩
     case measure=>simp[intOf];omega
  ·obtain rfl:k=m:=oM
   have hge:¬(k:Int)<(k:Int):=oM;obtain⟨ia,icap,rfl,hic⟩:=hsv.form;go_wp2_with fail;go_loopw [5,6] (λv kk wx=>∃(t:Nat) (S':BS),t<=n/\kk= .int .i64 (t:Nat)/\SL S' wx 140 v t/\Ev noB S w S' wx/\SL S' wx 3 (.slice ia n icap) n) (λ_ kk _=>n-(intOf kk).toNat)
   case atStart=>exact⟨0,S1,Nat.zero_le _,rfl,SL.nil _ _ _,hev,hsv⟩
   case round =>
    clear hsv hev;obtain⟨t,S2,ht,rfl,hsf,hev,hsv⟩:=hrel;by_cases hlt2:t<n
    ·have hltI:(t:Int)<(n:Int):=oM
     obtain⟨b2,off2,cap2,hab2,-,-⟩:=hsv.some_ oM;simp only[Value.slice.injEq,true_and]at hab2;obtain⟨rfl,rfl⟩:=hab2;obtain⟨y,cy,fy⟩:=SL.int hev.ok hsv hlt2;go_wp2_with (first
      |(at_builtin;refine a0y hev.ok qM _ _ 33 qM underlying33 a1l qM hsf qM rfl (c4s fy) rfl oM ?_;intro v9 S9 w9 hsl9 he9))
     go_roundw
     case rel=>exact⟨t+1,S9,oM,by go_num,hsl9,hev.trans he9,he9.sl hsv⟩
     case measure=>simp[intOf];omega
    ·obtain rfl:t=n:=oM
     have hge2:¬(t:Int)<(t:Int):=oM;go_wp2_with fail;go_ret;exact⟨S2,_,rfl,⟨t,hsf,oM⟩,hev⟩
end
section
variable{a b c d:Int}
def c4t (a b:Int):Int:=(a-b).sign
theorem a9m (h:a<b):c4t a b = -1:=by unfold c4t;rw[Int.sign_eq_neg_one_of_neg oM]
theorem b2r (a:Int):c4t a a=0:=by unfold c4t;rw[Int.sub_self];rfl
theorem a9n (h:b<a):c4t a b=1:=by unfold c4t;rw[Int.sign_eq_one_of_pos oM]
def d1j (h l h' l':Int):Int:=if c4t h h'=0 then c4t l l' else c4t h h'
theorem c5w (p q:Nat):d1j (p / 18446744073709551616:Nat) (p % 18446744073709551616:Nat) (q / 18446744073709551616:Nat) (q % 18446744073709551616:Nat)=c4t p q:=by
 unfold d1j;rcases Nat.lt_trichotomy (p / 18446744073709551616) (q / 18446744073709551616)with h|h|h
 ·rw[a9m oM,if_neg jM,a9m oM]
 ·rw[h,b2r,if_pos rfl]
  rcases Nat.lt_trichotomy (p % 18446744073709551616) (q % 18446744073709551616)with h2|h2|h2
  ·rw[a9m oM,a9m oM]
  ·have:p=q:=oM
   rw[this,b2r,b2r]
  ·rw[a9n oM,a9n oM]
 ·rw[a9n oM,if_neg jM,a9n oM]
def c5x (a b c d:Int):Int:=(a*b-c*d).sign
theorem b2s (n:Int):(n<0/\n.sign = -1)\/(n=0/\n.sign=0)\/(0<n/\n.sign=1):=by
 rcases Int.lt_trichotomy n 0 with h|h|h
 ·exact .inl ⟨h,Int.sign_eq_neg_one_of_neg h⟩
 ·exact .inr (.inl ⟨h,by rw[h];rfl⟩)
 ·exact .inr (.inr ⟨h,Int.sign_eq_one_of_pos h⟩)
theorem c5y (n:Int):n.sign = -1\/n.sign=0\/n.sign=1:=by
 rcases b2s n with h|h|h <;> simp[h.2]
theorem d2o (h:a.sign*b.sign≠c.sign*d.sign):(a.sign*b.sign-c.sign*d.sign).sign=c5x a b c d:=by
 unfold c5x;rw[<-Int.sign_mul,<-Int.sign_mul]at *;generalize a*b=x at *;generalize c*d=y at *;rcases b2s x with⟨h1,e1⟩|⟨h1,e1⟩|⟨h1,e1⟩ <;> rcases b2s y with⟨h2,e2⟩|⟨h2,e2⟩|⟨h2,e2⟩ <;> rw[e1,e2]at h ⊢ <;>
  first
  |exact absurd rfl h
  |(rw[Int.sign_eq_neg_one_of_neg (a:=x-y) oM];rfl)
  |(rw[Int.sign_eq_one_of_pos (a:=x-y) oM];rfl)
theorem d2p (h:a.sign*b.sign=c.sign*d.sign):a.sign*b.sign*c4t ((a.natAbs*b.natAbs:Nat):Int) ((c.natAbs*d.natAbs:Nat):Int)=c5x a b c d:=by
 unfold c5x c4t;rw[<-Int.natAbs_mul,<-Int.natAbs_mul];rw[<-Int.sign_mul,<-Int.sign_mul]at h;rw[<-Int.sign_mul];generalize a*b=x at *;generalize c*d=y at *;rcases b2s x with⟨h1,e1⟩|⟨h1,e1⟩|⟨h1,e1⟩ <;> rcases b2s y with⟨h2,e2⟩|⟨h2,e2⟩|⟨h2,e2⟩ <;> rw[e1,e2]at h <;> try omega
 ·rw[e1,show((x.natAbs:Int)) = -x from by omega,show((y.natAbs:Int)) = -y from by omega,show -x - -y = -(x-y)from by omega,Int.sign_neg]
  omega
 ·rw[e1,h1,h2];rfl
 ·rw[e1,show((x.natAbs:Int))=x from by omega,show((y.natAbs:Int))=y from by omega,Int.one_mul]
/-! ### roots -/
/-! ### greatest common divisors -/
end
section
open Go
theorem a6l (x:Nat)(h:x<18446744073709551616):IntKind.u64.wrap (x:Int)=(x:Int):=IntWalk.u64_in _ oM
theorem b1f (a:Nat)(ha:a<18446744073709551616):bits .and .u64 (a:Int) 4294967295=((a % 4294967296:Nat):Int):=by
 have h:=bits_and_u64_nat a 4294967295 ha jM;have e:a &&& 4294967295=a % 4294967296:=Nat.and_two_pow_sub_one_eq_mod a 32;rw[e]at h;exact h
theorem d2q (a b:Nat)(ha:a<18446744073709551616)(hb:b<18446744073709551616) :
 IntKind.u64.wrap (IntKind.u64.wrap ((a:Int) / 4294967296*bits .and .u64 (b:Int) 4294967295)+IntKind.u64.wrap (bits .and .u64 (a:Int) 4294967295*bits .and .u64 (b:Int) 4294967295) / 4294967296) =
  (((a / 4294967296)*(b % 4294967296)+(a % 4294967296)*(b % 4294967296) / 4294967296:Nat):Int):=by
 obtain⟨h1,h2,-,-⟩:=Lib.mul64_hi a b ha hb;have h3:=Lib.half_mul_le (a:=a / 4294967296) (b:=b % 4294967296) oM oM;rw[b1f a ha,b1f b hb,show((a:Int) / 4294967296)=((a / 4294967296:Nat):Int)from rfl,<-Int.natCast_mul,<-Int.natCast_mul,a6l _ oM,a6l _ h1];rw[show((((a % 4294967296)*(b % 4294967296):Nat):Int) / 4294967296)=(((a % 4294967296)*(b % 4294967296) / 4294967296:Nat):Int)from rfl,<-Int.natCast_add,a6l _ h2]
theorem d6f (a b:Nat)(ha:a<18446744073709551616)(hb:b<18446744073709551616)(T:Int)
 (hT:T=(((a / 4294967296)*(b % 4294967296)+(a % 4294967296)*(b % 4294967296) / 4294967296:Nat):Int)) :
 IntKind.u64.wrap (IntKind.u64.wrap (IntKind.u64.wrap ((a:Int) / 4294967296*((b:Int) / 4294967296))+T / 4294967296) +
  IntKind.u64.wrap (bits .and .u64 T 4294967295+IntKind.u64.wrap (bits .and .u64 (a:Int) 4294967295*((b:Int) / 4294967296))) / 4294967296)=((a*b / 18446744073709551616:Nat):Int):=by
 subst hT;obtain⟨h1,h2,h3,h4⟩:=Lib.mul64_hi a b ha hb;have h5:=Lib.half_mul_le (a:=a / 4294967296) (b:=b / 4294967296) oM oM;have h6:=Lib.half_mul_le (a:=a % 4294967296) (b:=b / 4294967296) oM oM;have hq:a*b / 18446744073709551616<18446744073709551616:=by
  have:a*b<18446744073709551616*18446744073709551616:=Nat.mul_lt_mul'' ha hb;exact Nat.div_lt_of_lt_mul this
 rw[b1f _ h2,b1f a ha,show((a:Int) / 4294967296)=((a / 4294967296:Nat):Int)from rfl,show((b:Int) / 4294967296)=((b / 4294967296:Nat):Int)from rfl,
  <-Int.natCast_mul,<-Int.natCast_mul,a6l _ oM,a6l _ oM,<-Int.natCast_add,a6l _ oM]
 generalize (a / 4294967296)*(b % 4294967296)+(a % 4294967296)*(b % 4294967296) / 4294967296=t at *;rw[show(((t:Nat):Int) / 4294967296)=((t / 4294967296:Nat):Int)from rfl,<-Int.natCast_add,a6l _ oM];rw[show((((t % 4294967296+a % 4294967296*(b / 4294967296):Nat)):Int) / 4294967296)=(((t % 4294967296+a % 4294967296*(b / 4294967296)) / 4294967296:Nat):Int)from rfl,<-Int.natCast_add,h4,a6l _ hq]
theorem d6g (a b:Nat):IntKind.u64.wrap ((a:Int)*(b:Int))=((a*b % 18446744073709551616:Nat):Int):=by
 rw[IntKind.wrap_u64,<-Int.natCast_mul];rfl
def hiN (a b:Nat):Int:=((a*b / 18446744073709551616:Nat):Int)
def loN (a b:Nat):Int:=((a*b % 18446744073709551616:Nat):Int)
end
section
open Go.RowKit Go.Shelf
variable{w1:World}
theorem b9c (n:Int)(w:World)(h0 : -9223372036854775808<=n)(h1:n<=9223372036854775807):
 Calls prog 219 #[.int .i64 n] w λe w'=>e= .returned (.int .u64 n.natAbs)/\w=w':=by
 by_cases h:n<0
 ·go_enter func219,ntmps219
  go_wp2
  go_ret;exact⟨a6b (by rw[IntKind.wrap_u64,IntKind.wrap_u64];omega),rfl⟩
 ·go_enter func219,ntmps219
  go_wp2
  go_ret;exact⟨a6b oM,rfl⟩
theorem b6g (n:Int)(w:World):
 Calls prog 217 #[.int .i64 n] w λe w'=>e= .returned (.int .i64 n.sign)/\w=w':=by
 rcases Int.lt_trichotomy n 0 with h|h|h
 ·have h1:¬(0<n):=oM
  go_enter func217,ntmps217;go_wp2
  go_ret;exact⟨a6b (Int.sign_eq_neg_one_of_neg h).symm,rfl⟩
 ·subst h
  go_enter func217,ntmps217;go_wp2
  go_ret;exact⟨rfl,rfl⟩
 ·have h1:¬(n<0):=oM
  go_enter func217,ntmps217;go_wp2
  go_ret;exact⟨a6b (Int.sign_eq_one_of_pos h).symm,rfl⟩
theorem b0h (a b:Nat)(w:World)(ha:a<18446744073709551616)(hb:b<18446744073709551616):
 Calls prog 218 #[.int .u64 a,.int .u64 b] w λe w'=>e= .returned (.agg #[.int .u64 (hiN a b),.int .u64 (loN a b)])/\Below w.heap.size w w':=by
 have hh:=d6f a b ha hb _ (d2q a b ha hb);rw[Int.add_comm (bits .and .u64 _ _)]at hh;have H:=Lib.hid hh;clear hh;go_enter func218,ntmps218;go_wp2
 refine bodyPost_ret (v:= .agg #[.int .u64 (hiN a b),.int .u64 (loN a b)]) ?_ rfl ⟨rfl,?_⟩
 ·rw[show hiN a b=_ from H.out.symm,show loN a b=_ from(d6g a b).symm];simp[results,results218,go_sem]
 ·exact(zR _ _).alloc (yR _) _
theorem d7z {W:World}(hb:Below W.heap.size W w1):(∀b o,b<W.heap.size->w1.cell? ⟨b,o,none⟩=W.cell? ⟨b,o,none⟩)/\(∀b o,b<W.heap.size->w1.frozen? ⟨b,o,none⟩=W.frozen? ⟨b,o,none⟩) :=
 ⟨λb o h=>hb.cell (p:=⟨b,o,none⟩) h,λb o h=>hb.frozen (p:=⟨b,o,none⟩) h⟩
theorem d8a (n:Int): -1<=n.sign/\n.sign<=1:=by rcases c5y n with h|h|h <;> rw[h] <;> decide
theorem b4r (a b:Int): -1<=a.sign*b.sign/\a.sign*b.sign<=1:=by rw[<-Int.sign_mul];exact d8a _
theorem d2r (a b c d:Nat):d1j (hiN a b) (loN a b) (hiN c d) (loN c d)=c4t ((a*b:Nat):Int) ((c*d:Nat):Int):=c5w _ _
theorem a8n (a:Int)(a0 : -9223372036854775808<=a)(a1:a<=9223372036854775807):a.natAbs<18446744073709551616:=oM
theorem a3g {B:Nat}{a w:World}(h:Below B a w):∀n,Below B a (w.drewN n)
 |0=>h
 |n+1=>by
  have:=a3g h n;exact⟨this.os,this.tape,this.output,this.size,this.block⟩
theorem d5h {w w2:World}{o1 o2:Obj}(hb1:Below w.heap.size w w1)(hb2:Below (w1.alloc o1).heap.size (w1.alloc o1) w2)(n:Nat):Below w.heap.size w ((w2.alloc o2).drewN n):=by
 have h1:=hb1.size;have h2:=hb2.size;simp at h2;exact a3g (((hb1.alloc h1 o1).trans (hb2.mono uM)).alloc oM o2) n
theorem d6h (a b c d:Int)(h:c<a):d1j a b c d=1:=by unfold d1j;rw[a9n h,if_neg jM]
theorem d6i (a b c d:Int)(h:a<c):d1j a b c d = -1:=by unfold d1j;rw[a9m h,if_neg jM]
theorem b2t (a b d:Int):d1j a b a d=c4t b d:=by unfold d1j;rw[b2r,if_pos rfl]
theorem b4s (a b c d:Int)(w:World)(a0 : -9223372036854775808<=a)(a1:a<=9223372036854775807)(b0 : -9223372036854775808<=b)(b1:b<=9223372036854775807)
 (c0 : -9223372036854775808<=c) (c1:c<=9223372036854775807) (d0 : -9223372036854775808<=d) (d1:d<=9223372036854775807) :
 Calls prog 215 #[.int .i64 a,.int .i64 b,.int .i64 c,.int .i64 d] w λe w'=>e= .returned (.int .i64 (c5x a b c d))/\Below w.heap.size w w':=by
 obtain⟨p0,p1⟩:=b4r a b;obtain⟨q0,q1⟩:=b4r c d;by_cases h:a.sign*b.sign=c.sign*d.sign
 ·have hb:(a.sign*b.sign != c.sign*d.sign)=false:=by simp[h]
  have HE:Hid (a.sign*b.sign*d1j (hiN a.natAbs b.natAbs) (loN a.natAbs b.natAbs) (hiN c.natAbs d.natAbs) (loN c.natAbs d.natAbs)=c5x a b c d):=by rw[d2r];exact d2p h
  clear h;go_enter func215,ntmps215;go_wp2_with (first|(go_at_call 217;refine(b6g _ _).mono ?_;rintro e w'⟨rfl,rfl⟩)|(go_at_call 219;refine(b9c _ _ gM gM).mono ?_;rintro e w'⟨rfl,rfl⟩));refine(b0h _ _ _ (a8n a a0 a1) (a8n b b0 b1)).mono ?_;rintro e w1⟨rfl,hb1⟩;go_wp2_with (first|(go_at_call 217;refine(b6g _ _).mono ?_;rintro e w'⟨rfl,rfl⟩)|(go_at_call 219;refine(b9c _ _ gM gM).mono ?_;rintro e w'⟨rfl,rfl⟩));refine(b0h _ _ _ (a8n c c0 c1) (a8n d d0 d1)).mono ?_;rintro e w2⟨rfl,hb2⟩;generalize hiN a.natAbs b.natAbs=x0 at *;generalize loN a.natAbs b.natAbs=x1 at *;generalize hiN c.natAbs d.natAbs=y0 at *;generalize loN c.natAbs d.natAbs=y1 at *;have hc0:w2.cell? ⟨w1.heap.size,0,none⟩=some (.int .u64 x0):=by rw[(d7z hb2).1 _ _ vM];simp
  have hc1:w2.cell? ⟨w1.heap.size,1,none⟩=some (.int .u64 x1):=by rw[(d7z hb2).1 _ _ vM];simp
  have hz:w1.heap.size<w2.heap.size:=by have:=hb2.size;simp at this;omega
  go_wp2_with fail;refine wp_loop_rounds 3 ?_;rw[rounds_succ];rcases Int.lt_trichotomy x0 y0 with hx|hx|hx
  ·have hn:¬y0<x0:=oM
   have HF:=Lib.hid (d6i x0 x1 y0 y1 hx);go_wp2_with fail;go_quiet (fail)
   exact yhl
  ·subst hx
   rcases Int.lt_trichotomy x1 y1 with hx|hx|hx
   ·have hn:¬y1<x1:=oM
    have HF:=Lib.hid ((b2t x0 x1 y1).trans (a9m hx));go_wp2_with fail;go_quiet (fail)
    go_wp2_with fail;go_quiet (fail)
    go_wp2_with fail;rw[rounds_succ];go_wp2_with fail;go_quiet (fail)
    exact yhl
   ·subst hx
    have HF:=Lib.hid ((b2t x0 x1 x1).trans (b2r x1));go_wp2_with fail;go_quiet (fail)
    go_wp2_with fail;go_quiet (fail)
    go_wp2_with fail;rw[rounds_succ];go_wp2_with fail;go_quiet (fail)
    go_wp2_with fail;go_quiet (fail)
    go_wp2_with fail;rw[rounds_succ];exact ybn
   ·have hn:¬x1<y1:=oM
    have HF:=Lib.hid ((b2t x0 x1 y1).trans (a9n hx));go_wp2_with fail;go_quiet (fail)
    go_wp2_with fail;go_quiet (fail)
    go_wp2_with fail;rw[rounds_succ];exact yhl
  ·have hn:¬x0<y0:=oM
   have HF:=Lib.hid (d6h x0 x1 y0 y1 hx);exact yhl
 ·have HE:=Lib.hid (d2o h)
  have hb:(a.sign*b.sign != c.sign*d.sign)=true:=by simp[h]
  clear h;go_enter func215,ntmps215;go_wp2_with (go_at_call 217;refine(b6g _ _).mono ?_;rintro e w'⟨rfl,rfl⟩);go_ret;exact⟨a6b HE.out,zR _ _⟩
end
section
open Go.RowKit Go.Shelf
attribute [local go_sem] Oper.semAt_some
attribute [local go_sem ↓] Go.wp_at_zero Go.wp_at_succ
variable{ad ax ay bd bx by_ px py:Int}{B3 B4 B5:Nat}{W:World}
def d8b (e:Ending):Prop:=∃b:Bool,e= .returned (.bool b)
def d9f (e:Ending):Prop:=∃x:Int,e= .returned (.int .i64 x)
theorem st3 {b:Nat}{x y d:Int}{t:TypeId}(h:Blk W b #[.int .i64 x,.int .i64 y,.int .i64 d] t):W.cell? ⟨b,0,none⟩=some (.int .i64 x)/\W.cell? ⟨b,1,none⟩=some (.int .i64 y)/\W.cell? ⟨b,2,none⟩=some (.int .i64 d):=⟨h.cell 0,h.cell 1,h.cell 2⟩
theorem a6v (x y:Int)(w:World):Calls prog 183 #[.agg #[.int .i64 x,.int .i64 y]] w λe w'=>e= .returned (.agg #[.int .i64 x,.int .i64 y,.int .i64 1])/\Below w.heap.size w w':=by
 go_enter func183,ntmps183;go_wp2_with fail;have hk:=Blk.new (w.alloc (.cells #[.int .i64 x,.int .i64 y] 26)) #[.int .i64 x,.int .i64 y,.int .i64 1] 245;rw[World.size_alloc]at hk;exact bodyPost_ret (results_cell_row qM _ _ _ 245 _ (0,0) _ qM hk underlying245 qM zM) rfl ⟨rfl,zC⟩
theorem b0i (x y d:Int)(w:World):Calls prog 182 #[.agg #[.int .i64 x,.int .i64 y,.int .i64 d]] w λe w'=>d8b e/\Below w.heap.size w w':=by
 go_enter func182,ntmps182;go_wp2_with fail
 all_goals
  go_ret;exact⟨⟨_,rfl⟩,zC⟩
theorem d6j (x y d:Int)(w:World):Calls prog 214 #[.agg #[.int .i64 x,.int .i64 y,.int .i64 d]] w λe w'=>d8b e/\Below w.heap.size w w':=by
 go_enter func214,ntmps214;go_wp2_with (first|(go_at_call 141;refine(a9x _ _ _ _).mono ?_;rintro e w'⟨rfl,rfl⟩)|fail)
 all_goals
  go_ret;exact⟨⟨_,rfl⟩,zC⟩
theorem a6m (ax ay ad bx by_ bd px py pd:Int)(w:World):Calls prog 202 #[.agg #[.int .i64 ax,.int .i64 ay,.int .i64 ad],.agg #[.int .i64 bx,.int .i64 by_,.int .i64 bd],.agg #[.int .i64 px,.int .i64 py,.int .i64 pd]] w λe w'=>d9f e/\Below w.heap.size w w':=by
 go_enter func202,ntmps202;go_wp2_with (first
  |(go_at_call 214;refine(d6j _ _ _ _).mono ?_;rintro e w'⟨⟨b,rfl⟩,hb_⟩;obtain⟨p,rfl⟩:=a0b hb_;clear hb_)
  |(go_at_call 215;refine(b4s _ _ _ _ _ (a1b _).1 (a1b _).2 (a1b _).1 (a1b _).2 (a1b _).1 (a1b _).2 (a1b _).1 (a1b _).2).mono ?_;rintro e w'⟨rfl,hb_⟩;obtain⟨p,rfl⟩:=a0b hb_;clear hb_))
 all_goals
  go_ret;exact⟨⟨_,rfl⟩,zC⟩
theorem b6h (n d m e:Int)(w:World)(hn:fits n)(hd:fits d)(hm:fits m)(he:fits e):Calls prog 205 #[.agg #[.int .i64 n,.int .i64 d],.agg #[.int .i64 m,.int .i64 e]] w λo w'=>d9f o/\Below w.heap.size w w':=by
 go_enter func205,ntmps205;go_wp2_with (first
  |(go_at_call 215;refine(b4s _ _ _ _ _ hn.1 hn.2 he.1 he.2 hm.1 hm.2 hd.1 hd.2).mono ?_;rintro e w'⟨rfl,hb_⟩;obtain⟨p,rfl⟩:=a0b hb_;clear hb_))
 all_goals
  go_ret;exact⟨⟨_,rfl⟩,zC⟩
theorem c9e (x y d px py:Int)(w:World)(hy:fits y)(hd:fits d)(hp:fits py):Calls prog 204 #[.agg #[.int .i64 x,.int .i64 y,.int .i64 d],.agg #[.int .i64 px,.int .i64 py]] w λo w'=>d8b o/\Below w.heap.size w w':=by
 go_enter func204,ntmps204;go_wp2_with (first
  |(go_at_call 205;refine(b6h _ _ _ _ _ hy hd hp ⟨jM,jM⟩).mono ?_;rintro e w'⟨⟨r,rfl⟩,hb_⟩;obtain⟨p,rfl⟩:=a0b hb_;clear hb_))
 all_goals
  go_ret;exact⟨⟨_,rfl⟩,zC⟩
theorem c9f (n a b c d:Int)(w:World)(hn:fits n)(ha:fits a)(hb:fits b)(hc:fits c)(hd:fits d):Calls prog 203 #[.int .i64 n,.agg #[.int .i64 a,.int .i64 b],.agg #[.int .i64 c,.int .i64 d]] w λo w'=>d9f o/\Below w.heap.size w w':=by
 go_enter func203,ntmps203;go_wp2_with (first
  |(go_at_call 205;refine(b6h _ _ _ _ _ hn ⟨jM,jM⟩ (by first|exact ha|exact hc) (by first|exact hb|exact hd)).mono ?_;rintro e w'⟨⟨r,rfl⟩,hb_⟩;obtain⟨p,rfl⟩:=a0b hb_;clear hb_))
 all_goals
  go_ret;exact⟨⟨_,rfl⟩,zC⟩
structure On3 (wr:World)(B3 B4 B5:Nat)(ax ay ad bx by_ bd px py:Int)(W:World):Prop where
 bel:Below wr.heap.size wr W
 a:Blk W B3 #[.int .i64 ax,.int .i64 ay,.int .i64 ad] 245
 b:Blk W B4 #[.int .i64 bx,.int .i64 by_,.int .i64 bd] 245
 p:Blk W B5 #[.int .i64 px,.int .i64 py] 26
theorem On3.up {wr W':World}(h:On3 wr B3 B4 B5 ax ay ad bx by_ bd px py W)(hb:Below W.heap.size W W'):On3 wr B3 B4 B5 ax ay ad bx by_ bd px py W' :=
 ⟨h.bel.trans (hb.mono h.bel.size),h.a.below hb h.a.lt,h.b.below hb h.b.lt,h.p.below hb h.p.lt⟩
def FOn (B3 B4 B5:Nat)(ax ay ad bx by_ bd px py:Int)(i:Nat)(v:Value)(w:World):Prop :=
 match i with
 |0=>v= .agg #[.int .i64 ax,.int .i64 ay,.int .i64 ad]
 |1=>v= .agg #[.int .i64 bx,.int .i64 by_,.int .i64 bd]
 |2=>v= .agg #[.int .i64 px,.int .i64 py]
 |3=>v= .agg #[.int .i64 px,.int .i64 py,.int .i64 1]
 |4=>∃x,v= .int .i64 x
 |_=>False
theorem FOn.kept {i:Nat}{v:Value}{w w':World}(h:FOn B3 B4 B5 ax ay ad bx by_ bd px py i v w)(hg:Below w.heap.size w w'):FOn B3 B4 B5 ax ay ad bx by_ bd px py i v w':=by
 unfold FOn at *;split at h
 all_goals first|exact h|(exact h)
theorem d6k (ax ay ad bx by_ bd px py:Int)(w:World)(f0:fits ax)(f1:fits ay)(f2:fits ad)(f3:fits bx)(f4:fits by_)(f5:fits bd)(f6:fits px)(f7:fits py):
 Calls prog 184 #[.agg #[.int .i64 ax,.int .i64 ay,.int .i64 ad],.agg #[.int .i64 bx,.int .i64 by_,.int .i64 bd],.agg #[.int .i64 px,.int .i64 py]] w λe w'=>d8b e/\Below w.heap.size w w':=by
 go_enter func184,ntmps184;go_upto_region 1 with fail;have hm:On3 w w.heap.size (w.heap.size+1) (w.heap.size+1+1) ax ay ad bx by_ bd px py (((w.alloc (.cells #[.int .i64 ax,.int .i64 ay,.int .i64 ad] 245)).alloc (.cells #[.int .i64 bx,.int .i64 by_,.int .i64 bd] 245)).alloc (.cells #[.int .i64 px,.int .i64 py] 26)):=by
  have k1:=Blk.new (w.alloc (.cells #[.int .i64 ax,.int .i64 ay,.int .i64 ad] 245)) #[.int .i64 bx,.int .i64 by_,.int .i64 bd] 245;have k2:=Blk.new ((w.alloc (.cells #[.int .i64 ax,.int .i64 ay,.int .i64 ad] 245)).alloc (.cells #[.int .i64 bx,.int .i64 by_,.int .i64 bd] 245)) #[.int .i64 px,.int .i64 py] 26;simp only[World.size_alloc]at k1 k2;exact⟨zC,((Blk.new w _ _).alloc _).alloc _,k1.alloc _,k2⟩
 obtain⟨W1,hW1⟩:=zE ((((w.alloc (.cells #[.int .i64 ax,.int .i64 ay,.int .i64 ad] 245)).alloc (.cells #[.int .i64 bx,.int .i64 by_,.int .i64 bd] 245)).alloc (.cells #[.int .i64 px,.int .i64 py] 26)));obtain⟨B5,hB5⟩:=zE (w.heap.size+1+1);obtain⟨B4,hB4⟩:=zE (w.heap.size+1);obtain⟨B3,hB3⟩:=zE w.heap.size;rw[hW1,hB5,hB4]at hm;rw[hW1,hB5,hB4];have hm1:On3 w B3 B4 B5 ax ay ad bx by_ bd px py W1:=hB3▸hm;rw[hB3];clear hm hW1 hB5 hB4 hB3;refine Go.wp_region_rel 5 zM zM (λ_ W=>On3 w B3 B4 B5 ax ay ad bx by_ bd px py W) (λw w'=>Below w.heap.size w w') (FOn B3 B4 B5 ax ay ad bx by_ bd px py) (λ_ _ _ _ h g=>h.kept g) (hm1.up (zR _ _).drew) ?_ ?_
 ·clear hm1
  intro i o hi ho c bb W hc hM hA hD K hK;match i,hi,ho with
  |0,_,ho =>
   cases ho;have f3:=a0a (v:= .pointer (some ⟨B3,0,none⟩)) (hA.at_ (k:=3) zM);have z0:W.cell? ⟨B3,0,none⟩=some (.int .i64 ax):=hM.a.cell 0;have z1:W.cell? ⟨B3,1,none⟩=some (.int .i64 ay):=hM.a.cell 1;have z2:W.cell? ⟨B3,2,none⟩=some (.int .i64 ad):=hM.a.cell 2;exact yjp
  |1,_,ho =>
   cases ho;have f4:=a0a (v:= .pointer (some ⟨B4,0,none⟩)) (hA.at_ (k:=4) zM);have z0:W.cell? ⟨B4,0,none⟩=some (.int .i64 bx):=hM.b.cell 0;have z1:W.cell? ⟨B4,1,none⟩=some (.int .i64 by_):=hM.b.cell 1;have z2:W.cell? ⟨B4,2,none⟩=some (.int .i64 bd):=hM.b.cell 2;exact yjj
  |2,_,ho =>
   cases ho;have f5:=a0a (v:= .pointer (some ⟨B5,0,none⟩)) (hA.at_ (k:=5) zM);have z0:W.cell? ⟨B5,0,none⟩=some (.int .i64 px):=hM.p.cell 0;have z1:W.cell? ⟨B5,1,none⟩=some (.int .i64 py):=hM.p.cell 1;go_simp;exact hK (.agg #[.int .i64 px,.int .i64 py]) W rfl (zR _ _) hM
  |3,_,ho =>
   cases ho;have f11:=a0a (v:= .agg #[.int .i64 px,.int .i64 py]) (a0c hD 2 11 zM rfl rfl);go_simp;refine(a6v px py W).mono ?_;rintro e W'⟨rfl,hb⟩;go_simp;exact hK (.agg #[.int .i64 px,.int .i64 py,.int .i64 1]) W' rfl hb (hM.up hb)
  |4,_,ho =>
   cases ho;have f9:=a0a (v:= .agg #[.int .i64 ax,.int .i64 ay,.int .i64 ad]) (a0c hD 0 9 zM rfl rfl);have f10:=a0a (v:= .agg #[.int .i64 bx,.int .i64 by_,.int .i64 bd]) (a0c hD 1 10 zM rfl rfl);have f12:=a0a (v:= .agg #[.int .i64 px,.int .i64 py,.int .i64 1]) (a0c hD 3 12 zM rfl rfl);go_simp;refine(a6m _ _ _ _ _ _ _ _ _ W).mono ?_;rintro e W'⟨⟨x,rfl⟩,hb⟩;go_simp;exact hK (.int .i64 x) W' ⟨x,rfl⟩ hb (hM.up hb)
  |i+5,hi,_=>exact absurd hi oM
 ·intro bb W hM hA hall
  obtain⟨X,hP4⟩:=(show ∃x,bb.eval (.tmp 13)= .int .i64 x from hall 4 oM _ _ rfl rfl);have hfr:=hA.frame (rT 9 (rF 5 (rT 33 ([])))) _ rfl zM;clear hall hA hm1;obtain⟨f,hf⟩:∃f:Nat->Value,(λk=>bb.tmps.getD k undef)=f:=⟨_,rfl⟩;have g13:f 13= .int .i64 X:=by rw[<-hf,<-hP4];rfl
  rw[hf]at hfr;clear hf hP4;subst hfr;simp only[rT,rF,a1z,g13,Nat.reduceAdd];clear g13;simp only[zU];obtain⟨bel,ka,kb,kp⟩:=hM;obtain⟨a0,a1,a2⟩:=st3 ka;obtain⟨b0,b1,b2⟩:=st3 kb;obtain⟨p0,p1,-,-⟩:=pt2 kp;clear ka kb kp;by_cases hX:X=0
  ·have hXb:(X != 0)=false:=by simp[hX]
   go_wp2_with (first
    |(go_at_call 203;refine(c9f _ _ _ _ _ _ gM gM gM gM gM).mono ?_;rintro e w'⟨⟨r,rfl⟩,hb_⟩;obtain⟨p,rfl⟩:=a0b hb_;clear hb_))
   all_goals
    go_ret;exact⟨⟨_,rfl⟩,bel.trans (Below.mono zC bel.size)⟩
  ·have hXb:(X != 0)=true:=by simp[hX]
   go_wp2_with fail;go_ret;exact⟨⟨_,rfl⟩,bel⟩
theorem c2b (ax ay ad bx by_ bd px py:Int)(w:World)(f1:fits ay)(f2:fits ad)(f4:fits by_)(f5:fits bd)(f7:fits py):
 Calls prog 185 #[.agg #[.int .i64 ax,.int .i64 ay,.int .i64 ad],.agg #[.int .i64 bx,.int .i64 by_,.int .i64 bd],.agg #[.int .i64 px,.int .i64 py]] w λe w'=>d9f e/\Below w.heap.size w w':=by
 go_enter func185,ntmps185;go_wp2_with (first
  |(go_at_call 183;refine(a6v _ _ _).mono ?_;rintro e w'⟨rfl,hb_⟩;obtain⟨p,rfl⟩:=a0b hb_;clear hb_)
  |(go_at_call 204;refine(c9e _ _ _ _ _ _ gM gM gM).mono ?_;rintro e w'⟨⟨b,rfl⟩,hb_⟩;obtain⟨p,rfl⟩:=a0b hb_;clear hb_)
  |(go_at_call 202;refine(a6m _ _ _ _ _ _ _ _ _ _).mono ?_;rintro e w'⟨⟨r,rfl⟩,hb_⟩;obtain⟨p,rfl⟩:=a0b hb_;clear hb_))
 all_goals
  go_ret;exact⟨⟨_,rfl⟩,zC⟩
theorem c5z (a0 a1 a2 a3 a4 a5 a6 b0 b1 b2 b3 b4 b5 b6:Int)(w:World)(f1:fits a1)(f2:fits a2)(f4:fits b1)(f5:fits b2):
 Calls prog 186 #[.agg #[.int .i64 a0,.int .i64 a1,.int .i64 a2,.int .i64 a3,.int .i64 a4,.int .i64 a5,.int .i64 a6],.agg #[.int .i64 b0,.int .i64 b1,.int .i64 b2,.int .i64 b3,.int .i64 b4,.int .i64 b5,.int .i64 b6]] w λe w'=>d8b e/\Below w.heap.size w w':=by
 go_enter func186,ntmps186;go_wp2_with (first
  |(go_at_call 205;refine(b6h _ _ _ _ _ gM gM gM gM).mono ?_;rintro e w'⟨⟨r,rfl⟩,hb_⟩;obtain⟨p,rfl⟩:=a0b hb_;clear hb_)
  |(go_at_call 202;refine(a6m _ _ _ _ _ _ _ _ _ _).mono ?_;rintro e w'⟨⟨r,rfl⟩,hb_⟩;obtain⟨p,rfl⟩:=a0b hb_;clear hb_))
 all_goals
  go_ret;exact⟨⟨_,rfl⟩,zC⟩
end
end Go.Proofs.YtfocdbjceedagaaGreatDoor
