/-
  Parts.
-/
import Derived.Test.YtfocdbjceedagaaGreatDoorMam
set_option linter.unusedVariables false
set_option linter.unusedSimpArgs false
set_option maxHeartbeats 8000000
set_option maxRecDepth 100000
namespace Go.Proofs.YtfocdbjceedagaaGreatDoor
open Tryz
section
open Go.RowKit Go.Shelf
attribute [local go_sem] Oper.semAt_some
attribute [local go_sem ↓] Go.wp_at_zero Go.wp_at_succ
variable{c:Array Value}{S:BS}{l px py r x y:Int}{B3 BT b cap i k m n off:Nat}{v:Value}{W W' w w' wr:World}
theorem d6l {d:Int}(hx:fits x)(hy:fits y)(hd:fits d):TB S W 245 #[.int .i64 x,.int .i64 y,.int .i64 d]:=c2a rfl rfl λi u ct h1 h2=>by
 match i with
 |0=>cases h1;cases h2;exact CT.ok_int hx
 |1=>cases h1;cases h2;exact CT.ok_int hy
 |2=>cases h1;cases h2;exact CT.ok_int hd
 |i+3=>simp at h1
structure Tr (w:World)(BT:Nat)(c:Array Value)(S:BS)(W:World):Prop where
 ev:Ev noB noB w S W
 b:Blk W BT c 249
 n:¬S BT
 l:w.heap.size<=BT
theorem Tr.evo {S':BS}(h:Tr w BT c S W)(he:Ev noB S W S' W'):Tr w BT c S' W':=⟨h.ev.trans he,he.blk h.b h.n (λh=>h),he.not h.b.lt h.n,h.l⟩
theorem Tr.set (h:Tr w BT c S W)(i:Nat)(v:Value):Tr w BT (c.setIfInBounds i v) S (W.setCell ⟨BT,i,none⟩ v) :=
 ⟨h.ev.own (a0x W BT i v) (λr e=>by cases e;exact⟨h.n,h.l⟩),h.b.set i v,h.n,h.l⟩
theorem Ev.low (h:Ev noB noB w S W):Below w.heap.size w W:=h.below (λ_ h=>h.elim) (λ_ h=>h.elim) (yR _)
structure TrM (wr:World)(BT:Nat)(c:Array Value)(W:World):Prop where
 bel:Below wr.heap.size wr W
 b:Blk W BT c 249
theorem TrM.up (h:TrM wr BT c W)(hb:Below W.heap.size W W'):TrM wr BT c W':=⟨h.bel.trans (hb.mono h.bel.size),h.b.below hb h.b.lt⟩
def FTc (wr:World)(b off m cap k:Nat)(id l r:Int)(i:Nat)(v:Value)(w:World):Prop :=
 match i with
 |0=>v= .slice (some ⟨b,off,none⟩) m cap
 |1=>v= .int .i64 (k:Nat)
 |2=>v= .pointer (some ⟨b,off+k*4,none⟩)
 |3=>v= .pointer (some ⟨b,off+k*4,none⟩)
 |4=>v= .int .i64 id
 |5=>v= .slice (some ⟨b,off,none⟩) m cap
 |6=>v= .int .i64 (k:Nat)
 |7=>v= .pointer (some ⟨b,off+k*4,none⟩)
 |8=>v= .pointer (some ⟨b,off+k*4+2,none⟩)
 |9=>v= .int .i64 l
 |10=>v= .slice (some ⟨b,off,none⟩) m cap
 |11=>v= .int .i64 (k:Nat)
 |12=>v= .pointer (some ⟨b,off+k*4,none⟩)
 |13=>v= .pointer (some ⟨b,off+k*4+3,none⟩)
 |14=>v= .int .i64 r
 |15=>v= .agg #[.int .i64 id,.slice none 0 0,.int .i64 l,.int .i64 r]
 |16=>∃B,v= .pointer (some ⟨B,0,none⟩)/\wr.heap.size<=B/\Blk w B #[.int .i64 0,.slice none 0 0,.int .i64 0,.int .i64 0] 249
 |_=>False
theorem FTc.kept {id:Int}(h:FTc wr b off m cap k id l r i v w)(hg:Below w.heap.size w w'):FTc wr b off m cap k id l r i v w':=by
 unfold FTc at *;exact yiv
def FTr (wr:World)(BT b off m cap k pb po q lcap ci:Nat)(x y:Int)(tv:Value)(i:Nat)(v:Value)(w:World):Prop :=
 match i with
 |0=>v= .pointer (some ⟨BT,1,none⟩)
 |1=>v=tv
 |2=>v= .slice (some ⟨b,off,none⟩) m cap
 |3=>v= .int .i64 (k:Nat)
 |4=>v= .pointer (some ⟨b,off+k*4,none⟩)
 |5=>v= .pointer (some ⟨b,off+k*4+1,none⟩)
 |6=>v= .slice (some ⟨pb,po,none⟩) q lcap
 |7=>v= .int .i64 (ci:Nat)
 |8=>v= .pointer (some ⟨pb,po+ci*2,none⟩)
 |9=>v= .agg #[.int .i64 x,.int .i64 y]
 |10=>v= .agg #[.int .i64 x,.int .i64 y,.int .i64 1]
 |11=>∃L,v= .slice (some ⟨L,0,none⟩) 1 1/\wr.heap.size<=L/\Blk w L #[.int .i64 x,.int .i64 y,.int .i64 1] 245
 |_=>False
theorem FTr.kept {pb po q lcap ci:Nat}{tv:Value}(h:FTr wr BT b off m cap k pb po q lcap ci x y tv i v w)(hg:Below w.heap.size w w'):FTr wr BT b off m cap k pb po q lcap ci x y tv i v w':=by
 unfold FTr at *;exact yiu
theorem c6a (S:BS)(w:World)(hT:TW S w)(ev:Value)(m:Nat)(hse:SL S w 206 ev m)(hm:m<=100):
 Calls prog 166 #[ev] w λe w'=>∃S' v,e= .returned v/\(∃n,SL S' w' 249 v n/\n<=100)/\Ev noB noB w S' w':=by
 obtain⟨ea,cap,rfl,hec⟩:=hse.form;go_enter func166,ntmps166;go_wp2_with fail;go_loopw [3,4] (λv kk wr=>∃(k:Nat) (S':BS),k<=m/\kk= .int .i64 (k:Nat)/\SL S' wr 249 v k/\Ev noB noB w S' wr) (λ_ kk _=>m-(intOf kk).toNat)
 case atStart=>exact⟨0,noB,Nat.zero_le _,rfl,SL.nil _ _ _,Ev.refl (TW.none _)⟩
 case round =>
  obtain⟨k,S1,hk,rfl,hsv,hev⟩:=hrel;by_cases hlt:k<m
  ·have hltI:(k:Int)<(m:Int):=oM
   obtain⟨b,off,cap',hab,-,-⟩:=hse.some_ oM;simp only[Value.slice.injEq,true_and]at hab;obtain⟨rfl,rfl⟩:=hab;obtain⟨id,l,r,lv,q,c0,c1,c2,c3,f0,f2,f3,hlv,hq⟩:=SL.edge hT hse hlt;obtain⟨la,lcap,rfl,-⟩:=hlv.form;have hc0:∀W,Below wr.heap.size wr W->W.cell? ⟨b,off+k*4,none⟩=some (.int .i64 id):=λW h=>((hev.low.trans (h.mono hev.size)).cell (p:=⟨b,_,none⟩) (World.block_lt_of_cell? _ _ c0)).trans c0
   have hc1:∀W,Below wr.heap.size wr W->W.cell? ⟨b,off+k*4+1,none⟩=some (.slice la q lcap):=λW h=>((hev.low.trans (h.mono hev.size)).cell (p:=⟨b,_,none⟩) (World.block_lt_of_cell? _ _ c1)).trans c1
   have hc2:∀W,Below wr.heap.size wr W->W.cell? ⟨b,off+k*4+2,none⟩=some (.int .i64 l):=λW h=>((hev.low.trans (h.mono hev.size)).cell (p:=⟨b,_,none⟩) (World.block_lt_of_cell? _ _ c2)).trans c2
   have hc3:∀W,Below wr.heap.size wr W->W.cell? ⟨b,off+k*4+3,none⟩=some (.int .i64 r):=λW h=>((hev.low.trans (h.mono hev.size)).cell (p:=⟨b,_,none⟩) (World.block_lt_of_cell? _ _ c3)).trans c3
   go_upto_region 5 with fail;refine Go.wp_region_rel 17 zM zM (λ_ W=>Below wr.heap.size wr W) (λw w'=>Below w.heap.size w w') (FTc wr b off m cap k id l r) (λ_ _ _ _ h g=>h.kept g) (zR _ _).drew ?_ ?_
   ·clear hsv hev hse hlv hT c0 c1 c2 c3 hc1
    intro i o hi ho c bb W hc hM hA hD K hK;match i,hi,ho with
    |0,_,ho =>
     exact ycf
    |1,_,ho =>
     exact yee
    |2,_,ho =>
     cases ho;have f13:=a0a (v:= .slice (some ⟨b,off,none⟩) m cap) (a0c hD 0 13 zM rfl rfl);have f14:=a0a (v:= .int .i64 (k:Nat)) (a0c hD 1 14 zM rfl rfl);exact ycq
    |3,_,ho =>
     cases ho;have f15:=a0a (v:= .pointer (some ⟨b,off+k*4,none⟩)) (a0c hD 2 15 zM rfl rfl);exact ycq
    |4,_,ho =>
     cases ho;have f16:=a0a (v:= .pointer (some ⟨b,off+k*4,none⟩)) (a0c hD 3 16 zM rfl rfl);have z0:W.cell? ⟨b,off+k*4,none⟩=some (.int .i64 id):=hc0 W hM;exact yiw
    |5,_,ho =>
     exact ycf
    |6,_,ho =>
     exact yee
    |7,_,ho =>
     cases ho;have f18:=a0a (v:= .slice (some ⟨b,off,none⟩) m cap) (a0c hD 5 18 zM rfl rfl);have f19:=a0a (v:= .int .i64 (k:Nat)) (a0c hD 6 19 zM rfl rfl);exact ycq
    |8,_,ho =>
     cases ho;have f20:=a0a (v:= .pointer (some ⟨b,off+k*4,none⟩)) (a0c hD 7 20 zM rfl rfl);exact yjg
    |9,_,ho =>
     cases ho;have f21:=a0a (v:= .pointer (some ⟨b,off+k*4+2,none⟩)) (a0c hD 8 21 zM rfl rfl);have z0:W.cell? ⟨b,off+k*4+2,none⟩=some (.int .i64 l):=hc2 W hM;go_simp;exact hK (.int .i64 l) W rfl (zR _ _) hM
    |10,_,ho =>
     exact ycf
    |11,_,ho =>
     exact yee
    |12,_,ho =>
     cases ho;have f23:=a0a (v:= .slice (some ⟨b,off,none⟩) m cap) (a0c hD 10 23 zM rfl rfl);have f24:=a0a (v:= .int .i64 (k:Nat)) (a0c hD 11 24 zM rfl rfl);exact ycq
    |13,_,ho =>
     cases ho;have f25:=a0a (v:= .pointer (some ⟨b,off+k*4,none⟩)) (a0c hD 12 25 zM rfl rfl);exact yji
    |14,_,ho =>
     cases ho;have f26:=a0a (v:= .pointer (some ⟨b,off+k*4+3,none⟩)) (a0c hD 13 26 zM rfl rfl);have z0:W.cell? ⟨b,off+k*4+3,none⟩=some (.int .i64 r):=hc3 W hM;go_simp;exact hK (.int .i64 r) W rfl (zR _ _) hM
    |15,_,ho =>
     cases ho;have f17:=a0a (v:= .int .i64 id) (a0c hD 4 17 zM rfl rfl);have f22:=a0a (v:= .int .i64 l) (a0c hD 9 22 zM rfl rfl);have f27:=a0a (v:= .int .i64 r) (a0c hD 14 27 zM rfl rfl);go_simp;exact hK (.agg #[.int .i64 id,.slice none 0 0,.int .i64 l,.int .i64 r]) W rfl (zR _ _) hM
    |16,_,ho =>
     cases ho;go_simp;exact hK (.pointer (some ⟨W.heap.size,0,none⟩)) _ ⟨_,rfl,hM.size,Blk.new _ _ _⟩ ((zR _ _).alloc (yR _) _) (hM.alloc hM.size _)
    |i+17,hi,_=>exact absurd hi oM
   ·intro bb W hM hA hall
    have hP15:bb.eval (.tmp 28)= .agg #[.int .i64 id,.slice none 0 0,.int .i64 l,.int .i64 r]:=hall 15 oM _ _ rfl rfl;obtain⟨BT,hP16,hBl,kT0⟩:=(show ∃B,bb.eval (.tmp 5)= .pointer (some ⟨B,0,none⟩)/\wr.heap.size<=B/\Blk W B #[.int .i64 0,.slice none 0 0,.int .i64 0,.int .i64 0] 249 from hall 16 oM _ _ rfl rfl);have hfr:=hA.frame (rT 5 (rF 1 (rT 7 (rF 16 (rT 29 ([])))))) _ rfl zM;clear hall hA;obtain⟨f,hf⟩:∃f:Nat->Value,(λk=>bb.tmps.getD k undef)=f:=⟨_,rfl⟩;have g28:f 28= .agg #[.int .i64 id,.slice none 0 0,.int .i64 l,.int .i64 r]:=by rw[<-hf,<-hP15];rfl
    have g5:f 5= .pointer (some ⟨BT,0,none⟩):=by rw[<-hf,<-hP16];rfl
    rw[hf]at hfr;clear hf hP15 hP16;subst hfr;simp only[rT,rF,a1z,g28,g5,Nat.reduceAdd];clear g28 g5;simp only[zU];have fr0:=kT0.frozen 0;have fr1:=kT0.frozen 1;have fr2:=kT0.frozen 2;have fr3:=kT0.frozen 3;obtain⟨q0,q1,q2,q3⟩:=(⟨kT0.cell 0,kT0.cell 1,kT0.cell 2,kT0.cell 3⟩:W.cell? ⟨BT,0,none⟩=some (.int .i64 0)/\W.cell? ⟨BT,1,none⟩=some (.slice none 0 0)/\W.cell? ⟨BT,2,none⟩=some (.int .i64 0)/\W.cell? ⟨BT,3,none⟩=some (.int .i64 0));go_upto_region 6 with fail;refine a0n (λW5 hW5=> ?_);have hn:¬S1 BT:=λh=>by have:=hev.ok.lt h;omega
    have hE1:Ev noB S1 wr S1 W:=Ev.of_below hev.ok hM;have hTr:Tr w BT #[.int .i64 id,.slice none 0 0,.int .i64 l,.int .i64 r] S1 W5/\Shp S1 W W5:=by
     have h1:Tr w BT _ S1 W:=⟨hev.trans hE1,kT0,hn,Nat.le_trans hev.size hBl⟩;have h2:=(((h1.set 0 (.int .i64 id)).set 1 (.slice none 0 0)).set 2 (.int .i64 l)).set 3 (.int .i64 r);rw[hW5];exact⟨by simpa using h2,(((Shp.set hn 0 _).trans (Shp.set hn 1 _) (λ_ h=>h)).trans (Shp.set hn 2 _) (λ_ h=>h)).trans (Shp.set hn 3 _) (λ_ h=>h)⟩
    have hsv5:=(hE1.sl hsv).mono (λ_ h=>h) hTr.2;replace hTr:=hTr.1;clear hW5 q0 q1 q2 q3 fr0 fr1 fr2 fr3 kT0 hM hE1 hn hc0 hc1 hc2 hc3 hsv hev hBl;obtain⟨ov,hov⟩:∃v,v=u3:=⟨_,rfl⟩;subst hov;go_wp2_with fail;go_loopw [6] (λii wx=>∃(ci:Nat) (S2:BS) (tv:Value),ci<=q/\ii= .int .i64 (ci:Nat)/\SL S2 wx 245 tv ci/\SL S2 wx 249 ov k/\Tr w BT #[.int .i64 id,tv,.int .i64 l,.int .i64 r] S2 wx) (λii _=>q-(intOf ii).toNat)
    case atStart=>exact⟨0,S1,_,Nat.zero_le _,rfl,SL.nil _ _ _,hsv5,hTr⟩
    case round =>
     clear hTr hsv5;obtain⟨ci,S2,tv,hci,rfl,hst,hso,hTr⟩:=hrel;have hlow:=hTr.ev.low;have hc1:∀W,Below wr.heap.size wr W->W.cell? ⟨b,off+k*4+1,none⟩=some (.slice la q lcap):=λW h=>((hlow.trans (h.mono hTr.ev.size)).cell (p:=⟨b,_,none⟩) (World.block_lt_of_cell? _ _ c1)).trans c1
     have c1':=hc1 wr (zR _ _);by_cases hli:ci<q
     ·have hliI:(ci:Int)<(q:Int):=oM
      obtain⟨pb,po,qc,hab2,-,-⟩:=hlv.some_ oM;simp only[Value.slice.injEq,true_and]at hab2;obtain⟨rfl,rfl⟩:=hab2;obtain⟨x,y,cx,cy,fx,fy⟩:=SL.point hT hlv hli;have hx:∀W,Below wr.heap.size wr W->W.cell? ⟨pb,po+ci*2,none⟩=some (.int .i64 x):=λW h=>((hlow.trans (h.mono hTr.ev.size)).cell (p:=⟨pb,_,none⟩) (World.block_lt_of_cell? _ _ cx)).trans cx
      have hy:∀W,Below wr.heap.size wr W->W.cell? ⟨pb,po+ci*2+1,none⟩=some (.int .i64 y):=λW h=>((hlow.trans (h.mono hTr.ev.size)).cell (p:=⟨pb,_,none⟩) (World.block_lt_of_cell? _ _ cy)).trans cy
      go_upto_region 9 with fail;refine Go.wp_region_rel 12 zM zM (λ_ W=>TrM wr BT #[.int .i64 id,tv,.int .i64 l,.int .i64 r] W) (λw w'=>Below w.heap.size w w') (FTr wr BT b off m cap k pb po q lcap ci x y tv) (λ_ _ _ _ h g=>h.kept g) ((⟨zR _ _,hTr.b⟩:TrM wr BT #[.int .i64 id,tv,.int .i64 l,.int .i64 r] wr).up (zR _ _).drew) ?_ ?_
      ·clear hst hso hse hlv hT c0 c1 c2 c3 c1' cx cy hTr hlow
       intro i o hi ho c bb W hc hM hA hD K hK;match i,hi,ho with
       |0,_,ho =>
        cases ho;have f5:=a0a (v:= .pointer (some ⟨BT,0,none⟩)) (hA.at_ (k:=5) zM);go_simp;exact hK (.pointer (some ⟨BT,1,none⟩)) W rfl (zR _ _) hM
       |1,_,ho =>
        cases ho;have f39:=a0a (v:= .pointer (some ⟨BT,1,none⟩)) (a0c hD 0 39 zM rfl rfl);have z0:W.cell? ⟨BT,1,none⟩=some (tv):=hM.b.cell 1;go_simp;exact hK (tv) W rfl (zR _ _) hM
       |2,_,ho =>
        exact ycf
       |3,_,ho =>
        exact yee
       |4,_,ho =>
        cases ho;have f41:=a0a (v:= .slice (some ⟨b,off,none⟩) m cap) (a0c hD 2 41 zM rfl rfl);have f42:=a0a (v:= .int .i64 (k:Nat)) (a0c hD 3 42 zM rfl rfl);exact ycq
       |5,_,ho =>
        cases ho;have f43:=a0a (v:= .pointer (some ⟨b,off+k*4,none⟩)) (a0c hD 4 43 zM rfl rfl);go_simp;exact hK (.pointer (some ⟨b,off+k*4+1,none⟩)) W rfl (zR _ _) hM
       |6,_,ho =>
        cases ho;have f44:=a0a (v:= .pointer (some ⟨b,off+k*4+1,none⟩)) (a0c hD 5 44 zM rfl rfl);have z0:W.cell? ⟨b,off+k*4+1,none⟩=some (.slice (some ⟨pb,po,none⟩) q lcap):=hc1 W hM.bel;go_simp;exact hK (.slice (some ⟨pb,po,none⟩) q lcap) W rfl (zR _ _) hM
       |7,_,ho =>
        cases ho;have f6:=a0a (v:= .int .i64 (ci:Nat)) (hA.at_ (k:=6) zM);go_simp;exact hK (.int .i64 (ci:Nat)) W rfl (zR _ _) hM
       |8,_,ho =>
        cases ho;have f45:=a0a (v:= .slice (some ⟨pb,po,none⟩) q lcap) (a0c hD 6 45 zM rfl rfl);have f46:=a0a (v:= .int .i64 (ci:Nat)) (a0c hD 7 46 zM rfl rfl);go_simp;exact hK (.pointer (some ⟨pb,po+ci*2,none⟩)) W rfl (zR _ _) hM
       |9,_,ho =>
        cases ho;have f47:=a0a (v:= .pointer (some ⟨pb,po+ci*2,none⟩)) (a0c hD 8 47 zM rfl rfl);have z0:W.cell? ⟨pb,po+ci*2,none⟩=some (.int .i64 x):=hx W hM.bel;have z1:W.cell? ⟨pb,po+ci*2+1,none⟩=some (.int .i64 y):=hy W hM.bel;go_simp;exact hK (.agg #[.int .i64 x,.int .i64 y]) W rfl (zR _ _) hM
       |10,_,ho =>
        cases ho;have f48:=a0a (v:= .agg #[.int .i64 x,.int .i64 y]) (a0c hD 9 48 zM rfl rfl);go_simp;refine(a6v x y W).mono ?_;rintro e W'⟨rfl,hb⟩;go_simp;exact hK (.agg #[.int .i64 x,.int .i64 y,.int .i64 1]) W' rfl hb (hM.up hb)
       |11,_,ho =>
        cases ho;have f49:=a0a (v:= .agg #[.int .i64 x,.int .i64 y,.int .i64 1]) (a0c hD 10 49 zM rfl rfl);exact yfy
       |i+12,hi,_=>exact absurd hi oM
      ·intro bb W hM hA hall
       obtain⟨L,hP11,hLl,kL⟩:=(show ∃L,bb.eval (.tmp 50)= .slice (some ⟨L,0,none⟩) 1 1/\wr.heap.size<=L/\Blk W L #[.int .i64 x,.int .i64 y,.int .i64 1] 245 from hall 11 oM _ _ rfl rfl);have hP1:bb.eval (.tmp 40)=tv:=hall 1 oM _ _ rfl rfl;have hfr:=hA.frame (rT 39 (rF 12 (rT 7 ([])))) _ rfl zM;clear hall hA;obtain⟨f,hf⟩:∃f:Nat->Value,(λk=>bb.tmps.getD k undef)=f:=⟨_,rfl⟩;have g50:f 50= .slice (some ⟨L,0,none⟩) 1 1:=by rw[<-hf,<-hP11];rfl
       have g40:f 40=tv:=by rw[<-hf,<-hP1];rfl
       rw[hf]at hfr;clear hf hP11 hP1;subst hfr;simp only[rT,rF,a1z,g50,g40,Nat.reduceAdd];clear g50 g40;simp only[zU];have hE1:Ev noB S2 wr (λb=>S2 b\/b=L) W:=(Ev.of_below hTr.ev.ok hM.bel).adopt hLl kL (d6l fx fy ⟨jM,jM⟩);have h4:=hTr.evo hE1;have hst4:=hE1.sl hst;have hso4:=hE1.sl hso;have slL:SL (λb=>S2 b\/b=L) W 245 (.slice (some ⟨L,0,none⟩) 1 1) 1:=SL.blk (.inr rfl) kL (by show 1*3<=3;omega);clear hTr hst hso hM hE1 hlow;go_wp2_with (first
        |(at_builtin;refine a1k (X:=noB) h4.ev.ok qM _ _ 247 qM underlying247 b6a qM hst4 qM slL oM ?_;intro v9 S9 w9 hsl9 he9;obtain⟨a9,c9,rfl,-⟩:=hsl9.form;have h5:=h4.evo he9;have o1:w9.cell? ⟨BT,1,none⟩=some tv:=h5.b.cell 1;have fo1:=h5.b.frozen 1))
       go_roundw
       case rel=>exact⟨ci+1,S9,_,oM,by go_num,SL.mono hsl9 (λ_ h=>h) (Shp.set h5.n _ _),SL.mono (he9.sl hso4) (λ_ h=>h) (Shp.set h5.n _ _),by have h6:=h5.set 1 (.slice a9 (ci+1) c9);simpa using h6⟩
       case measure=>simp[intOf];omega
     ·obtain rfl:ci=q:=oM
      have hge:¬(ci:Int)<(ci:Int):=oM;obtain⟨ta,tc,rfl,-⟩:=hst.form;obtain⟨t0,t1,t2,t3⟩:=(⟨hTr.b.cell 0,hTr.b.cell 1,hTr.b.cell 2,hTr.b.cell 3⟩:wr.cell? ⟨BT,0,none⟩=some (.int .i64 id)/\wr.cell? ⟨BT,1,none⟩=some (.slice ta ci tc)/\wr.cell? ⟨BT,2,none⟩=some (.int .i64 l)/\wr.cell? ⟨BT,3,none⟩=some (.int .i64 r));go_wp2_with (first
       |(at_builtin;refine a0y hTr.ev.ok qM _ _ 226 qM underlying226 a8m qM hso qM rfl (d2n f0 f2 f3 hst hq) rfl oM ?_;intro v9 S9 w9 hsl9 he9))
      go_roundw
      case rel=>exact⟨k+1,S9,oM,by go_num,hsl9,hTr.ev.trans he9⟩
      case measure=>simp[intOf];omega
  ·obtain rfl:k=m:=oM
   have hge:¬(k:Int)<(k:Int):=oM;go_wp2_with fail;go_ret;exact⟨S1,_,rfl,⟨k,hsv,hm⟩,hev⟩
theorem SL.trace (hT:TW S W)(h:SL S W 249 (.slice (some ⟨b,off,none⟩) n cap) n)(hk:k<n):∃id l r lv m,W.cell? ⟨b,off+k*4,none⟩=some (.int .i64 id)/\W.cell? ⟨b,off+k*4+1,none⟩=some lv/\W.cell? ⟨b,off+k*4+2,none⟩=some (.int .i64 l)/\W.cell? ⟨b,off+k*4+3,none⟩=some (.int .i64 r)/\fits id/\fits l/\fits r/\SL S W 245 lv m/\m<=100:=by
 obtain⟨u0,c0,h0⟩:=h.cell hT a8m hk 0 .int rfl;obtain⟨u1,c1,h1⟩:=h.cell hT a8m hk 1 (.sl 245) rfl;obtain⟨u2,c2,h2⟩:=h.cell hT a8m hk 2 .int rfl;obtain⟨u3,c3,h3⟩:=h.cell hT a8m hk 3 .int rfl;exact yfu
theorem SL.spot (hT:TW S W)(h:SL S W 245 (.slice (some ⟨b,off,none⟩) n cap) n)(hk:k<n):∃x y d,W.cell? ⟨b,off+k*3,none⟩=some (.int .i64 x)/\W.cell? ⟨b,off+k*3+1,none⟩=some (.int .i64 y)/\W.cell? ⟨b,off+k*3+2,none⟩=some (.int .i64 d)/\fits x/\fits y/\fits d:=by
 obtain⟨u0,c0,h0⟩:=h.cell hT b6a hk 0 .int rfl;obtain⟨u1,c1,h1⟩:=h.cell hT b6a hk 1 .int rfl;obtain⟨u2,c2,h2⟩:=h.cell hT b6a hk 2 .int rfl;obtain⟨x,rfl,f0⟩:=h0.i rfl;obtain⟨y,rfl,f1⟩:=h1.i rfl;obtain⟨d,rfl,f2⟩:=h2.i rfl;exact⟨x,y,d,c0,c1,c2,f0,f1,f2⟩
structure PP (w:World)(B3:Nat)(px py:Int)(W:World):Prop where
 bel:Below w.heap.size w W
 p:Blk W B3 #[.int .i64 px,.int .i64 py] 26
theorem PP.up (h:PP w B3 px py W)(hb:Below W.heap.size W W'):PP w B3 px py W':=⟨h.bel.trans (hb.mono h.bel.size),h.p.below hb h.p.lt⟩
theorem PP.old (h:PP w B3 px py W){ad:Addr}(hc:w.cell? ad=some v):W.cell? ad=some v:=(h.bel.cell (World.block_lt_of_cell? _ _ hc)).trans hc
abbrev a3y (y0 y1 y2 y3 y4 y5 y6:Int):Array Value:= #[.int .i64 y0,.int .i64 y1,.int .i64 y2,.int .i64 y3,.int .i64 y4,.int .i64 y5,.int .i64 y6]
structure PQ (w:World)(B3:Nat)(px py:Int)(B9:Nat)(W:World):Prop where
 pp:PP w B3 px py W
 q:∃y0 y1 y2 y3 y4 y5 y6,Blk W B9 (a3y y0 y1 y2 y3 y4 y5 y6) 251/\fits y1/\fits y2
 l9:w.heap.size<=B9
 d:B3≠B9
theorem PQ.up {B9:Nat}(h:PQ w B3 px py B9 W)(hb:Below W.heap.size W W'):PQ w B3 px py B9 W':=by
 obtain⟨y0,y1,y2,y3,y4,y5,y6,k,f1,f2⟩:=h.q;exact⟨h.pp.up hb,⟨y0,y1,y2,y3,y4,y5,y6,k.below hb k.lt,f1,f2⟩,h.l9,h.d⟩
theorem c9g {B:Nat}{y0 y1 y2 y3 y4 y5 y6:Int}{t:TypeId}(h:Blk W B (a3y y0 y1 y2 y3 y4 y5 y6) t):(W.cell? ⟨B,0,none⟩=some (.int .i64 y0)/\W.cell? ⟨B,1,none⟩=some (.int .i64 y1)/\W.cell? ⟨B,2,none⟩=some (.int .i64 y2)/\W.cell? ⟨B,3,none⟩=some (.int .i64 y3)/\W.cell? ⟨B,4,none⟩=some (.int .i64 y4)/\W.cell? ⟨B,5,none⟩=some (.int .i64 y5)/\W.cell? ⟨B,6,none⟩=some (.int .i64 y6)) /\
 W.frozen? ⟨B,0,none⟩=false/\W.frozen? ⟨B,1,none⟩=false/\W.frozen? ⟨B,2,none⟩=false/\W.frozen? ⟨B,3,none⟩=false/\W.frozen? ⟨B,4,none⟩=false/\W.frozen? ⟨B,5,none⟩=false/\W.frozen? ⟨B,6,none⟩=false :=
 ⟨⟨h.cell 0,h.cell 1,h.cell 2,h.cell 3,h.cell 4,h.cell 5,h.cell 6⟩,h.frozen 0,h.frozen 1,h.frozen 2,h.frozen 3,h.frozen 4,h.frozen 5,h.frozen 6⟩
structure AtW (wr:World)(P Q b off k:Nat)(ax ay ad bx by_ bd l r:Int)(W:World):Prop where
 bel:Below wr.heap.size wr W
 p:Blk W P #[.int .i64 ax,.int .i64 ay,.int .i64 ad] 245
 q:Blk W Q #[.int .i64 bx,.int .i64 by_,.int .i64 bd] 245
 c2:W.cell? ⟨b,off+k*4+2,none⟩=some (.int .i64 l)
 c3:W.cell? ⟨b,off+k*4+3,none⟩=some (.int .i64 r)
theorem AtW.up {P Q:Nat}{ax ay ad bx by_ bd:Int}(h:AtW wr P Q b off k ax ay ad bx by_ bd l r W)(hb:Below W.heap.size W W'):AtW wr P Q b off k ax ay ad bx by_ bd l r W' :=
 ⟨h.bel.trans (hb.mono h.bel.size),h.p.below hb h.p.lt,h.q.below hb h.q.lt,(hb.cell (World.block_lt_of_cell? _ _ h.c2)).trans h.c2,(hb.cell (World.block_lt_of_cell? _ _ h.c3)).trans h.c3⟩
theorem d2s (n m:Int)(w:World)(hn:fits n)(h1:1<=m)(h2:m<=1000000):Calls prog 77 #[.int .i64 n,.int .i64 m] w λe w'=>∃r,e= .returned (.int .i64 r)/\0<=r/\r<m/\w=w':=by
 refine(a5j n m w hn h1 oM).mono ?_;rintro e w'⟨rfl,rfl⟩;exact⟨_,rfl,Int.emod_nonneg _ oM,Int.emod_lt_of_pos _ oM,rfl⟩
theorem d2t (lv:Value)(ls:List Int)(i j:Nat)(w:World)(hI:Ints w.heap.size w lv ls)(hl:b6b ls.length)(hi:i<=4)(hj:j<=4):
 Calls prog 128 #[lv,.int .i64 i,.int .i64 j] w λe w'=>(∃x y,e= .returned (.agg #[.int .i64 x,.int .i64 y])/\fits x/\fits y)/\Below w.heap.size w w':=by
 obtain⟨q,hq⟩:∃q:Nat,4*j+i=q:=⟨_,rfl⟩;have w1:IntKind.i64.wrap (4*(j:Int))=4*(j:Int):=a0k oM oM;have w2:IntKind.i64.wrap (4*(j:Int)+(i:Int))=q:=by rw[a0k oM oM];omega
 have w3:IntKind.i64.wrap (2*(q:Int))=2*(q:Int):=a0k oM oM;have w4:IntKind.i64.wrap (2*(q:Int)+1)=2*(q:Int)+1:=a0k oM oM;have e2:4*(j:Int)+(i:Int)=q:=oM;obtain⟨a,cap,rfl,hc⟩:=hI;by_cases hlt:2*q+1<ls.length
 ·have hltI:2*(q:Int)+1<(ls.length:Int):=oM
  have hltJ:2*(q:Int)<(ls.length:Int):=oM;obtain⟨b,off,rfl,hb,f0,c0⟩:=hc (2*q) oM;obtain⟨b',off',hab,-,f1,c1⟩:=hc (2*q+1) hlt;simp only[Option.some.injEq,Addr.mk.injEq,and_true]at hab;obtain⟨rfl,rfl⟩:=hab;obtain⟨x,hx⟩:=zE (ls[2*q]);obtain⟨y,hy⟩:=zE (ls[2*q+1]);rw[hx]at f0 c0;rw[hy]at f1 c1;clear hc hx hy hl;replace hq:=Lib.hid hq;go_enter func128,ntmps128;go_wp2_with (first|(go_at_call 77;refine(d2s _ 21 _ (by first|exact f0|exact f1) oM oM).mono ?_;rintro e w'⟨r,rfl,r0,r1,rfl⟩)|fail);exact yha
 ·have hgeI:¬2*(q:Int)+1<(ls.length:Int):=oM
  clear hc hl;replace hq:=Lib.hid hq;go_enter func128,ntmps128;go_wp2_with fail;exact yha
theorem d2u (a0 a1 a2 a3 a4 a5 cw ch i j:Int)(w:World)(f0:fits a0)(f1:fits a1)(f2:fits a2)(f3:fits a3)(f4:fits a4)(f5:fits a5)(hw:cw<=3)(hh:ch<=2):
 Calls prog 129 #[.agg #[.int .i64 a0,.int .i64 a1,.int .i64 a2,.int .i64 a3,.int .i64 a4,.int .i64 a5],.int .i64 cw,.int .i64 ch,.int .i64 i,.int .i64 j] w λe w'=>(∃x,e= .returned (.int .i64 x)/\fits x)/\Below w.heap.size w w':=by
 by_cases h1:i<0
 ·exact yeg
 ·by_cases h2:j<0
  ·exact yeg
  ·by_cases h3:cw<=i
   ·exact yeg
   ·by_cases h4:ch<=j
    ·exact yeg
    ·rcases(show i=0\/i=1\/i=2 from oM)with rfl|rfl|rfl
     all_goals
      rcases(show j=0\/j=1 from oM)with rfl|rfl
      all_goals
       go_enter func129,ntmps129;go_wp2_with fail;go_ret;exact⟨⟨_,rfl,zF⟩,zC⟩
end
section
open Go.RowKit Go.Shelf
attribute [local go_sem] Oper.semAt_some
attribute [local go_sem ↓] Go.wp_at_zero Go.wp_at_succ
variable{ad ax ay bd bx by_:Int}{P Q b cap i k n off:Nat}{v:Value}{w w':World}
theorem run_build_rise (x0 x1 x2 x3 x4 x5 x6:Int)(W:World):(Instr.build 251 #[(0,.agg #[.int .i64 x0,.int .i64 x1,.int .i64 x2]),(1,.agg #[.int .i64 x3,.int .i64 x4,.int .i64 x5]),(2,.int .i64 x6)]).run prog W= .ok (.agg (a3y x0 x1 x2 x3 x4 x5 x6)) W:=by kernel_rfl
attribute [-go_sem] Instr.build
attribute [local go_sem] run_build_rise
theorem PQ.best2 {W W':World}{B3 B9:Nat}{px py:Int}(h:PQ w B3 px py B9 W){y0 y1 y2 y3 y4 y5 y6:Int}(k:Blk W' B9 (a3y y0 y1 y2 y3 y4 y5 y6) 251)(hg:W.grownBy W' (some B9))(f1:fits y1)(f2:fits y2):PQ w B3 px py B9 W' :=
 ⟨⟨h.pp.bel.trans (Below.of_grown hg h.pp.bel.size (λr e=>by cases e;exact h.l9)),h.pp.p.kept hg (λe=>h.d (Option.some.inj e).symm)⟩,⟨y0,y1,y2,y3,y4,y5,y6,k,f1,f2⟩,h.l9,h.d⟩
def d8c (e:Ending):Prop:=∃(x:Int) (b:Bool),e= .returned (.tuple #[.int .i64 x,.bool b])
def FAa (wr:World)(P Q b off n cap k:Nat)(ax ay ad bx by_ bd r:Int)(i:Nat)(v:Value)(w:World):Prop :=
 match i with
 |0=>v= .agg #[.int .i64 ax,.int .i64 ay,.int .i64 ad]
 |1=>v= .agg #[.int .i64 bx,.int .i64 by_,.int .i64 bd]
 |2=>v= .slice (some ⟨b,off,none⟩) n cap
 |3=>v= .int .i64 (k:Nat)
 |4=>v= .pointer (some ⟨b,off+k*4,none⟩)
 |5=>v= .pointer (some ⟨b,off+k*4+3,none⟩)
 |6=>v= .int .i64 r
 |7=>v= .agg (a3y ax ay ad bx by_ bd r)
 |8=>∃B,v= .pointer (some ⟨B,0,none⟩)/\wr.heap.size<=B/\Blk w B (a3y 0 0 0 0 0 0 0) 251
 |_=>False
theorem FAa.kept {wr:World}{r:Int}(h:FAa wr P Q b off n cap k ax ay ad bx by_ bd r i v w)(hg:Below w.heap.size w w'):FAa wr P Q b off n cap k ax ay ad bx by_ bd r i v w':=by
 unfold FAa at *;exact yiv
def FAb (P Q b off n cap k:Nat)(ax ay ad bx by_ bd l:Int)(i:Nat)(v:Value)(w:World):Prop :=
 match i with
 |0=>v= .agg #[.int .i64 bx,.int .i64 by_,.int .i64 bd]
 |1=>v= .agg #[.int .i64 ax,.int .i64 ay,.int .i64 ad]
 |2=>v= .slice (some ⟨b,off,none⟩) n cap
 |3=>v= .int .i64 (k:Nat)
 |4=>v= .pointer (some ⟨b,off+k*4,none⟩)
 |5=>v= .pointer (some ⟨b,off+k*4+2,none⟩)
 |6=>v= .int .i64 l
 |7=>v= .agg (a3y bx by_ bd ax ay ad l)
 |_=>False
theorem FAb.kept {l:Int}(h:FAb P Q b off n cap k ax ay ad bx by_ bd l i v w)(hg:Below w.heap.size w w'):FAb P Q b off n cap k ax ay ad bx by_ bd l i v w':=by
 unfold FAb at *;split at h
 all_goals first|exact h
theorem b9d (S:BS)(w:World)(hT:TW S w)(tv:Value)(n:Nat)(hst:SL S w 249 tv n)(hn:n<=100)(px py:Int)(fpx:fits px)(fpy:fits py):
 Calls prog 165 #[tv,.agg #[.int .i64 px,.int .i64 py]] w λe w'=>d8c e/\Below w.heap.size w w':=by
 obtain⟨ta,cap,rfl,htc⟩:=hst.form;have hnI:(n:Int)<=100:=oM;go_enter func165,ntmps165;go_upto_if 19 with(first
  |(go_at_call 183;refine(a6v _ _ _).mono ?_;rintro e W1⟨rfl,hb1⟩)
  |(go_at_call 182;refine(b0i _ _ _ _).mono ?_;rintro e W2⟨⟨bo,rfl⟩,hb2⟩))
 have hp0:PP w w.heap.size px py (w.alloc (.cells #[.int .i64 px,.int .i64 py] 26)):=⟨zC,Blk.new _ _ _⟩;have hp2:PP w w.heap.size px py W2:=(hp0.up hb1).up hb2;have hB3l:w.heap.size<=w.heap.size:=yR _;obtain⟨B3,hB3⟩:=zE w.heap.size;have hp:PP w B3 px py W2:=hB3▸hp2;have hl3:w.heap.size<=B3:=oM;rw[hB3];clear hp0 hp2 hb1 hb2 hB3 hB3l
 cases bo
 ·go_wp2_with fail
  go_ret2;exact⟨⟨_,_,rfl⟩,hp.bel⟩
 ·simp only[Bool.not_true]
  go_wp2_with fail;go_loopw [6] (λkk wr=>∃k:Nat,k<=n/\kk= .int .i64 (k:Nat)/\PP w B3 px py wr) (λkk _=>n-(intOf kk).toNat)
  case atStart=>exact⟨0,Nat.zero_le _,rfl,hp⟩
  case round =>
   clear hp;obtain⟨k,hk,rfl,hp⟩:=hrel;by_cases hlt:k<n
   ·have hltI:(k:Int)<(n:Int):=oM
    as_aux_lemma =>
     obtain⟨b,off,cap',hab,-,-⟩:=hst.some_ oM;simp only[Value.slice.injEq,true_and]at hab;obtain⟨rfl,rfl⟩:=hab;obtain⟨id,l,r,lv,m,c0,c1,c2,c3,f0,f2,f3,hlv,hm⟩:=SL.trace hT hst hlt;obtain⟨la,lcap,rfl,-⟩:=hlv.form;go_wp2_with fail;go_loopw [7] (λii wr=>∃i:Nat,i<=m/\ii= .int .i64 (i:Nat)/\PP w B3 px py wr) (λii _=>m-(intOf ii).toNat)
     case atStart=>exact⟨0,Nat.zero_le _,rfl,hp⟩
     case round =>
      clear hp;obtain⟨i,hi,rfl,hp⟩:=hrel;have o1:=hp.old c1;by_cases hli:i<m
      ·have hliI:(i:Int)<(m:Int):=oM
       obtain⟨pb,po,qc,hab2,-,-⟩:=hlv.some_ oM;simp only[Value.slice.injEq,true_and]at hab2;obtain⟨rfl,rfl⟩:=hab2;obtain⟨x,y,d,d0,d1,d2,-,-,-⟩:=SL.spot hT hlv hli;have p0:=hp.old d0;have p1:=hp.old d1;have p2:=hp.old d2;go_upto_if 45 with(first
        |(go_at_call 182;refine(b0i _ _ _ _).mono ?_;rintro e W3⟨⟨bo,rfl⟩,hb3⟩))
       have hp3:=hp.up hb3;clear hp hb3 p0 p1 p2 o1
       cases bo
       ·go_wp2_with fail
        go_ret2;exact⟨⟨_,_,rfl⟩,hp3.bel⟩
       ·go_wp2_with fail
        go_roundw
        case rel=>exact⟨i+1,oM,by go_num,hp3⟩
        case measure=>simp[intOf];omega
      ·obtain rfl:i=m:=oM
       have hge:¬(i:Int)<(i:Int):=oM;go_wp2_with fail;go_roundw
       case rel=>exact⟨k+1,oM,by go_num,hp⟩
       case measure=>simp[intOf];omega
   ·have hge:¬(k:Int)<(n:Int):=oM
    go_wp2_with fail;have hq0:PQ w B3 px py wr.heap.size (wr.alloc (.cells (a3y 0 0 0 0 0 0 0) 251)):=by
     have hlt:=hp.p.lt;exact⟨hp.up ((zR _ _).alloc (yR _) _),⟨0,0,0,0,0,0,0,Blk.new _ _ _,⟨jM,jM⟩,⟨jM,jM⟩⟩,hp.bel.size,oM⟩
    obtain⟨B9,hB9⟩:=zE wr.heap.size;obtain⟨W4,hW4⟩:=zE (wr.alloc (.cells (a3y 0 0 0 0 0 0 0) 251));rw[hB9,hW4]at hq0;rw[hB9,hW4];clear hB9 hW4 hp hge hlt hk;go_loopw [8,10] (λfv kk wr=>∃(k:Nat) (fb:Bool),k<=n/\kk= .int .i64 (k:Nat)/\fv= .bool fb/\PQ w B3 px py B9 wr) (λ_ kk _=>n-(intOf kk).toNat)
    case atStart=>exact⟨0,false,Nat.zero_le _,rfl,rfl,hq0⟩
    case round =>
     clear hq0;obtain⟨k,fb,hk,rfl,rfl,hq⟩:=hrel;by_cases hlt:k<n
     ·have hltI:(k:Int)<(n:Int):=oM
      as_aux_lemma =>
       obtain⟨b,off,cap',hab,-,-⟩:=hst.some_ oM;simp only[Value.slice.injEq,true_and]at hab;obtain⟨rfl,rfl⟩:=hab;obtain⟨id,l,r,lv,m,c0,c1,c2,c3,f0,f2,f3,hlv,hm⟩:=SL.trace hT hst hlt;obtain⟨la,lcap,rfl,-⟩:=hlv.form;go_wp2_with fail;go_loopw [8,11] (λfv ii wr=>∃(i:Nat) (fb:Bool),i<=m/\ii= .int .i64 (i:Nat)/\fv= .bool fb/\PQ w B3 px py B9 wr) (λ_ ii _=>m-(intOf ii).toNat)
       case atStart=>exact⟨0,fb,Nat.zero_le _,rfl,rfl,hq⟩
       case round =>
        clear hq;obtain⟨i,fb,hi,rfl,rfl,hq⟩:=hrel;have o1:=hq.pp.old c1;by_cases hli:i+1<m
        ·have hliJ:(i:Int)<(m:Int):=oM
         obtain⟨pb,po,qc,hab2,-,-⟩:=hlv.some_ oM;simp only[Value.slice.injEq,true_and]at hab2;obtain⟨rfl,rfl⟩:=hab2;obtain⟨ax,ay,ad,d0,d1,d2,ga0,ga1,ga2⟩:=SL.spot hT hlv (k:=i) oM;obtain⟨i1,hi1⟩:=zE (i+1);have e1:(i:Int)+1=(i1:Int):=oM;have hl1:(i1:Int)<(m:Int):=oM;obtain⟨bx,by_,bd,d3,d4,d5,gb0,gb1,gb2⟩:=SL.spot hT hlv (k:=i1) oM;have p0:=hq.pp.old d0;have p1:=hq.pp.old d1;have p2:=hq.pp.old d2;have p3:=hq.pp.old d3;have p4:=hq.pp.old d4;have p5:=hq.pp.old d5;replace hi1:=Lib.hid hi1;have hbA:Below wr.heap.size wr (wr.alloc (.cells #[.int .i64 ax,.int .i64 ay,.int .i64 ad] 245)):=(zR _ _).alloc (yR _) _;have kP:=Blk.new wr #[.int .i64 ax,.int .i64 ay,.int .i64 ad] 245;have o1A:=(hbA.cell (World.block_lt_of_cell? _ _ o1)).trans o1;have p3A:=(hbA.cell (World.block_lt_of_cell? _ _ p3)).trans p3;have p4A:=(hbA.cell (World.block_lt_of_cell? _ _ p4)).trans p4;have p5A:=(hbA.cell (World.block_lt_of_cell? _ _ p5)).trans p5;have hsA:(wr.alloc (.cells #[.int .i64 ax,.int .i64 ay,.int .i64 ad] 245)).heap.size=wr.heap.size+1:=by simp
         clear p3 p4 p5;go_upto_region 20 with fail;obtain⟨WA,hWA⟩:=zE (wr.alloc (.cells #[.int .i64 ax,.int .i64 ay,.int .i64 ad] 245));rw[hWA]at hbA kP o1A p3A p4A p5A hsA;rw[hWA];obtain⟨P,hP⟩:=zE wr.heap.size;have hPl:wr.heap.size<=P:=oM;rw[hP]at kP hsA;rw[hP];clear hWA p0 p1 p2 o1;have hbB:Below WA.heap.size WA (WA.alloc (.cells #[.int .i64 bx,.int .i64 by_,.int .i64 bd] 245)):=(zR _ _).alloc (yR _) _;have kQ:=Blk.new WA #[.int .i64 bx,.int .i64 by_,.int .i64 bd] 245;have kP:=kP.alloc (.cells #[.int .i64 bx,.int .i64 by_,.int .i64 bd] 245);go_upto_region 21 with fail;obtain⟨W5,hW5⟩:=zE (WA.alloc (.cells #[.int .i64 bx,.int .i64 by_,.int .i64 bd] 245));rw[hW5]at hbB kQ kP;rw[hW5];obtain⟨Q,hQ⟩:=zE (P+1);rw[hsA,hQ]at kQ;rw[hQ];clear hW5 o1A p3A p4A p5A;have hb5:Below wr.heap.size wr W5:=hbA.trans (hbB.mono hbA.size);have hq5:=hq.up hb5;have o2:=hq.pp.old c2;have o3:=hq.pp.old c3;have hA5:AtW wr P Q b off k ax ay ad bx by_ bd l r W5:=⟨hb5,kP,kQ,(hb5.cell (World.block_lt_of_cell? _ _ o2)).trans o2,(hb5.cell (World.block_lt_of_cell? _ _ o3)).trans o3⟩;clear hbA hbB hsA hQ hP o2 o3 hq e1 hl1 hi1 d0 d1 d2 d3 d4 d5;obtain⟨a0,a1,a2⟩:=st3 kP;obtain⟨b0,b1,b2⟩:=st3 kQ;obtain⟨q0,q1,-,-⟩:=pt2 hq5.pp.p;go_upto_if 83 with(first
          |(go_at_call 184;refine(d6k _ _ _ _ _ _ _ _ _ ga0 ga1 ga2 gb0 gb1 gb2 fpx fpy).mono ?_;rintro e W6⟨⟨bo,rfl⟩,hb6⟩))
         have hq6:=hq5.up hb6;have hA6:=hA5.up hb6;clear hq5 hA5 kP kQ a0 a1 a2 b0 b1 b2 q0 q1 hb6
         cases bo
         case true =>
          go_wp2_with fail;go_ret2;exact⟨⟨_,_,rfl⟩,hq6.pp.bel⟩
         case false =>
          obtain⟨a0,a1,a2⟩:=st3 hA6.p;obtain⟨b0,b1,b2⟩:=st3 hA6.q;obtain⟨q0,q1,-,-⟩:=pt2 hq6.pp.p;go_upto_region 24 with(first
           |(go_at_call 185;refine(c2b _ _ _ _ _ _ _ _ _ ga1 ga2 gb1 gb2 fpy).mono ?_;rintro e W7⟨⟨x,rfl⟩,hb7⟩))
          have hq7:=hq6.up hb7;have hA7:=hA6.up hb7;clear hq6 hA6 a0 a1 a2 b0 b1 b2 q0 q1 hb7;have hA8:AtW W7 P Q b off k ax ay ad bx by_ bd l r W7:=⟨zR _ _,hA7.p,hA7.q,hA7.c2,hA7.c3⟩;clear hA7;refine Go.wp_region_rel 9 zM zM (λ_ W=>AtW W7 P Q b off k ax ay ad bx by_ bd l r W) (λw w'=>Below w.heap.size w w') (FAa W7 P Q b off n cap k ax ay ad bx by_ bd r) (λ_ _ _ _ h g=>h.kept g) (hA8.up (zR _ _).drew) ?_ ?_
          ·clear hst hlv hT c0 c1 c2 c3 hA8 hq7
           intro j o hj ho c bb W hc hM hA hD K hK;match j,hj,ho with
           |0,_,ho =>
            exact ycl
           |1,_,ho =>
            exact yck
           |2,_,ho =>
            exact yen
           |3,_,ho =>
            exact ydu
           |4,_,ho =>
            cases ho;have f90:=a0a (v:= .slice (some ⟨b,off,none⟩) n cap) (a0c hD 2 90 zM rfl rfl);have f91:=a0a (v:= .int .i64 (k:Nat)) (a0c hD 3 91 zM rfl rfl);exact ycq
           |5,_,ho =>
            cases ho;have f92:=a0a (v:= .pointer (some ⟨b,off+k*4,none⟩)) (a0c hD 4 92 zM rfl rfl);exact yji
           |6,_,ho =>
            cases ho;have f93:=a0a (v:= .pointer (some ⟨b,off+k*4+3,none⟩)) (a0c hD 5 93 zM rfl rfl);have z0:W.cell? ⟨b,off+k*4+3,none⟩=some (.int .i64 r):=hM.c3;go_simp;exact hK (.int .i64 r) W rfl (zR _ _) hM
           |7,_,ho =>
            cases ho;have f88:=a0a (v:= .agg #[.int .i64 ax,.int .i64 ay,.int .i64 ad]) (a0c hD 0 88 zM rfl rfl);have f89:=a0a (v:= .agg #[.int .i64 bx,.int .i64 by_,.int .i64 bd]) (a0c hD 1 89 zM rfl rfl);have f94:=a0a (v:= .int .i64 r) (a0c hD 6 94 zM rfl rfl);go_simp;exact hK (.agg (a3y ax ay ad bx by_ bd r)) W rfl (zR _ _) hM
           |8,_,ho =>
            cases ho;go_simp;exact hK (.pointer (some ⟨W.heap.size,0,none⟩)) _ ⟨_,rfl,hM.bel.size,Blk.new _ _ _⟩ ((zR _ _).alloc (yR _) _) (hM.up ((zR _ _).alloc (yR _) _))
           |i+9,hi,_=>exact absurd hi oM
          ·intro bb W hM hA hall
           have hP7:bb.eval (.tmp 95)= .agg (a3y ax ay ad bx by_ bd r):=hall 7 oM _ _ rfl rfl;obtain⟨BL,hP8,hBl,kL0⟩:=(show ∃B,bb.eval (.tmp 15)= .pointer (some ⟨B,0,none⟩)/\W7.heap.size<=B/\Blk W B (a3y 0 0 0 0 0 0 0) 251 from hall 8 oM _ _ rfl rfl);have hfr:=hA.frame (rT 15 (rF 1 (rT 72 (rF 8 (rT 24 ([])))))) _ rfl zM;clear hall hA;obtain⟨f,hf⟩:∃f:Nat->Value,(λk=>bb.tmps.getD k undef)=f:=⟨_,rfl⟩;have g95:f 95= .agg (a3y ax ay ad bx by_ bd r):=by rw[<-hf,<-hP7];rfl
           have g15:f 15= .pointer (some ⟨BL,0,none⟩):=by rw[<-hf,<-hP8];rfl
           rw[hf]at hfr;clear hf hP7 hP8;subst hfr;simp only[rT,rF,a1z,g95,g15,a3y,Nat.reduceAdd];clear g95 g15;simp only[zU];refine a2q qM _ _ _ qM BL (a3y ax ay ad bx by_ bd r) qM qM _ _ kL0 qM qM (by simp[a3y,Value.oneCell']) ?_;intro W8 k15 hg8;have hbL:Below W7.heap.size W7 W8:=hM.bel.trans (Below.of_grown hg8 hM.bel.size (λr e=>by cases e;exact hBl));clear hM kL0 hg8;go_upto_region 25 with fail;by_cases hx:x<0
           ·have hA9:=hA8.up hbL
            have hA10:AtW W8 P Q b off k ax ay ad bx by_ bd l r W8:=⟨zR _ _,hA9.p,hA9.q,hA9.c2,hA9.c3⟩;clear hA9 hA8;go_upto_region 26 with fail;refine Go.wp_region_rel 8 zM zM (λ_ W=>AtW W8 P Q b off k ax ay ad bx by_ bd l r W) (λw w'=>Below w.heap.size w w') (FAb P Q b off n cap k ax ay ad bx by_ bd l) (λ_ _ _ _ h g=>h.kept g) (hA10.up (zR _ _).drew) ?_ ?_
            ·clear hst hlv hT c0 c1 c2 c3 hA10 hq7
             intro j o hj ho c bb W hc hM hA hD K hK;match j,hj,ho with
             |0,_,ho =>
              exact yck
             |1,_,ho =>
              exact ycl
             |2,_,ho =>
              exact yen
             |3,_,ho =>
              exact ydu
             |4,_,ho =>
              cases ho;have f100:=a0a (v:= .slice (some ⟨b,off,none⟩) n cap) (a0c hD 2 100 zM rfl rfl);have f101:=a0a (v:= .int .i64 (k:Nat)) (a0c hD 3 101 zM rfl rfl);exact ycq
             |5,_,ho =>
              cases ho;have f102:=a0a (v:= .pointer (some ⟨b,off+k*4,none⟩)) (a0c hD 4 102 zM rfl rfl);exact yjg
             |6,_,ho =>
              cases ho;have f103:=a0a (v:= .pointer (some ⟨b,off+k*4+2,none⟩)) (a0c hD 5 103 zM rfl rfl);have z0:W.cell? ⟨b,off+k*4+2,none⟩=some (.int .i64 l):=hM.c2;go_simp;exact hK (.int .i64 l) W rfl (zR _ _) hM
             |7,_,ho =>
              cases ho;have f98:=a0a (v:= .agg #[.int .i64 bx,.int .i64 by_,.int .i64 bd]) (a0c hD 0 98 zM rfl rfl);have f99:=a0a (v:= .agg #[.int .i64 ax,.int .i64 ay,.int .i64 ad]) (a0c hD 1 99 zM rfl rfl);have f104:=a0a (v:= .int .i64 l) (a0c hD 6 104 zM rfl rfl);go_simp;exact hK (.agg (a3y bx by_ bd ax ay ad l)) W rfl (zR _ _) hM
             |i+8,hi,_=>exact absurd hi oM
            ·intro bb W hM hA hall
             have hP7:bb.eval (.tmp 105)= .agg (a3y bx by_ bd ax ay ad l):=hall 7 oM _ _ rfl rfl;have hfr:=hA.frame (rT 98 (rF 8 (rT 14 ([])))) _ rfl zM;clear hall hA;obtain⟨f,hf⟩:∃f:Nat->Value,(λk=>bb.tmps.getD k undef)=f:=⟨_,rfl⟩;have g105:f 105= .agg (a3y bx by_ bd ax ay ad l):=by rw[<-hf,<-hP7];rfl
             rw[hf]at hfr;clear hf hP7;subst hfr;simp only[rT,rF,a1z,g105,a3y,Nat.reduceAdd];clear g105;simp only[zU];have k15:=k15.below hM.bel k15.lt;refine a2q qM _ _ _ qM BL (a3y bx by_ bd ax ay ad l) qM qM _ _ k15 qM qM (by simp[a3y,Value.oneCell']) ?_;clear k15;intro W9 k15 hg9;have hq:=hq7.up ((hbL.trans (hM.bel.mono hbL.size)).trans (Below.of_grown hg9 (hbL.trans (hM.bel.mono hbL.size)).size (λr e=>by cases e;exact hBl)));clear hM hq7 hbL hx hg9;go_upto_region 27 with fail;have g1:=gb1;have g2:=gb2;exact yak
           ·have hq:=hq7.up hbL
            clear hq7 hbL hA8;have g1:=ga1;have g2:=ga2;go_upto_region 27 with fail;clear hx;exact yak
        ·have hge:¬(i:Int)+1<(m:Int):=oM
         go_wp2_with fail;go_roundw
         case rel=>exact⟨k+1,fb,oM,by go_num,rfl,hq⟩
         case measure=>simp[intOf];omega
     ·have hge:¬(k:Int)<(n:Int):=oM
      obtain⟨z0,z1,z2,z3,z4,z5,z6,k9,fz1,fz2⟩:=hq.q;obtain⟨⟨s0,s1,s2,s3,s4,s5,s6⟩,-⟩:=c9g k9;go_wp2_with fail;go_ret2;exact⟨⟨_,_,rfl⟩,hq.pp.bel⟩
end
section
open Go.RowKit Go.Shelf
attribute [local go_sem] Oper.semAt_some
attribute [local go_sem ↓] Go.wp_at_zero Go.wp_at_succ
structure Intz (n₀:Nat)(W:World)(v:Value)(xs:List Int):Prop where
 ints:Ints n₀ W v xs
 len:b6b xs.length
theorem Intz.nil (n₀:Nat)(W:World):Intz n₀ W (.slice none 0 0) []:=⟨⟨none,0,rfl,λj hj=>by simp at hj⟩,Nat.zero_le _⟩
def Mat (n₀:Nat)(W:World)(lv:Value)(rows:List (Value×List Int)):Prop :=
 ∃a cap,lv= .slice a rows.length cap/\rows.length<=cap/\∀j,(h:j<rows.length)->∃b off,a=some ⟨b,off,none⟩/\b<n₀/\W.cell? ⟨b,off+j,none⟩=some rows[j].1/\Intz n₀ W rows[j].1 rows[j].2
theorem Intz.below {n₀:Nat}{A B:World}(h:Below n₀ A B){v:Value}{xs:List Int}(k:Intz n₀ A v xs):Intz n₀ B v xs:=⟨k.ints.below h,k.len⟩
theorem Mat.below {n₀:Nat}{A B:World}(h:Below n₀ A B){lv:Value}{rows:List (Value×List Int)}:Mat n₀ A lv rows->Mat n₀ B lv rows
 |⟨a,cap,e,hc,f⟩=>⟨a,cap,e,hc,λj hj=>by
  obtain⟨b,off,h1,h2,h3,h4⟩:=f j hj;exact⟨b,off,h1,h2,(h.cell (p:=⟨b,off+j,none⟩) h2).trans h3,h4.below h⟩⟩
theorem Mat.mono {n₀ n₁:Nat}(h:n₀<=n₁){W:World}{lv:Value}{rows:List (Value×List Int)}:Mat n₀ W lv rows->Mat n₁ W lv rows
 |⟨a,cap,e,hc,f⟩=>⟨a,cap,e,hc,λj hj=>by
  obtain⟨b,off,h1,h2,h3,⟨a2,c2,e2,f2⟩,h5⟩:=f j hj;exact⟨b,off,h1,oM,h3,⟨a2,c2,e2,λi hi=>by obtain⟨b',o',k1,k2,k3⟩:=f2 i hi;exact⟨b',o',k1,oM,k3⟩⟩,h5⟩⟩
structure Same1 (w w2:World):Prop where
 eq:w=w2
def OB6 (W:World)(B:Nat):Prop:=∃c,Blk W B c 194/\c.size=6/\∀u∈c.toList,∃x,u= .int .i64 x/\fits x
theorem OB6.kept {W W':World}{B:Nat}{row:Option Nat}(h:OB6 W B)(hg:W.grownBy W' row)(hr:row≠some B):OB6 W' B:=by
 obtain⟨c,h1,h2,h3⟩:=h;exact⟨c,h1.kept hg hr,h2,h3⟩
theorem OB6.ev {X S S':BS}{W W':World}{B:Nat}(h:OB6 W B)(he:Ev X S W S' W')(hS:¬S B)(hX:¬X B):OB6 W' B:=by
 obtain⟨c,h1,h2,h3⟩:=h;exact⟨c,he.blk h1 hS hX,h2,h3⟩
theorem OB6.lt {W:World}{B:Nat}(h:OB6 W B):B<W.heap.size:=by obtain⟨c,h1,-⟩:=h;exact h1.lt
theorem OB6.at_ {W:World}{B:Nat}(h:OB6 W B){q:Nat}(hq:q<6):∃x,W.cell? ⟨B,q,none⟩=some (.int .i64 x)/\fits x:=by
 obtain⟨c,h1,h2,h3⟩:=h;obtain⟨x,hx,fx⟩:=h3 (c[q]'(by omega)) vM;exact⟨x,by rw[h1.cell,Array.getElem?_eq_getElem oM,hx],fx⟩
theorem OB6.set {W:World}{B:Nat}(h:OB6 W B)(q:Nat){x:Int}(fx:fits x):OB6 (W.setCell ⟨B,q,none⟩ (.int .i64 x)) B:=by
 obtain⟨c,h1,h2,h3⟩:=h;refine⟨_,h1.set q _,by simpa using h2,λu hu=> ?_⟩;rw[Array.toList_setIfInBounds]at hu;rcases List.mem_or_eq_of_mem_set hu with hu|rfl
 ·exact h3 u hu
 ·exact⟨x,rfl,fx⟩
theorem OB6.frozen {W:World}{B:Nat}(h:OB6 W B)(q:Nat):W.frozen? ⟨B,q,none⟩=false:=by obtain⟨c,h1,-⟩:=h;exact h1.frozen q
theorem Ev.wide {X Y S0 S S':BS}{W0 W W':World}(h:Ev X S0 W0 S W)(he:Ev Y S W S' W')(hY:∀b,Y b->W0.heap.size<=b):Ev X S0 W0 S' W' :=
 ⟨λb hb=>he.sub b (h.sub b hb),λb hb=>by
  rcases he.new b hb with h1|h1
  ·exact h.new b h1
  ·exact .inr (Nat.le_trans h.size h1),he.os.trans h.os,he.tape.trans h.tape,he.output.trans h.output,Nat.le_trans h.size he.size,λb hb hn hx=>by
  have hn1:¬S b:=λh1=>by
   rcases h.new b h1 with h2|h2
   ·exact hn h2
   ·omega
  exact(he.rest b (Nat.lt_of_lt_of_le hb h.size) hn1 (λhy=>by have:=hY b hy;omega)).trans (h.rest b hb hn hx),h.shape.trans he.shape h.sub,he.ok⟩
structure M7 (w:World)(D BO:Nat)(fv:Value)(fs:List Int)(S:BS)(W:World):Prop where
 td:TD S w.heap.size D fv fs W
 ob:OB6 W BO
 nO:¬S BO
 lO:w.heap.size<=BO
 dO:BO≠D
 bel:Ev noB noB w S W
section
variable {w W W':World}{D BO:Nat}{fv:Value}{fs:List Int}{S S':BS}
theorem M7.next (h:M7 w D BO fv fs S W)(m:Int)(hm1:1<=m)(hm2:m<=1000000) :
 Calls prog 73 #[.pointer (some ⟨D,0,none⟩),.int .i64 m] W λe W'=>∃v,e= .returned (.int .i64 v)/\0<=v/\v<m/\M7 w D BO fv fs S W'/\W.grownBy W' (some D)/\Ev (b0f D) S W S W':=by
 refine(h.td.call m hm1 oM).mono ?_;rintro e W'⟨v,rfl,h0,h1,h2,hg,he⟩;exact⟨v,rfl,h0,h1,⟨h2,h.ob.kept hg (λe=>h.dO (Option.some.inj e).symm),h.nO,h.lO,h.dO,h.bel.wide he (λb hb=>by cases hb;exact h.td.le)⟩,hg,he⟩
theorem M7.evo (h:M7 w D BO fv fs S W)(he:Ev noB S W S' W'):M7 w D BO fv fs S' W' :=
 ⟨h.td.ev he (λ_ h=>h.elim),h.ob.ev he h.nO (λh=>h),he.not h.ob.lt h.nO,h.lO,h.dO,h.bel.trans he⟩
theorem M7.up (h:M7 w D BO fv fs S W)(hb:Below W.heap.size W W'):M7 w D BO fv fs S W':=h.evo (Ev.of_below h.td.tw hb)
theorem TD.own {S:BS}{n₀ D:Nat}{sv:Value}{xs:List Int}{W:World}(h:TD S n₀ D sv xs W){B:Nat}(hB:n₀<=B)(hD:B≠D)(hS:¬S B)(i:Nat)(v:Value):TD S n₀ D sv xs (W.setCell ⟨B,i,none⟩ v):=by
 obtain⟨j,hj,hb⟩:=h.box;have hg:=a0x W B i v;have hlt:=h.lt;refine⟨h.tw.of_same (λb hb=>hg.block b (h.tw.lt hb) (λe=>hS (by cases e;exact hb))),⟨j,hj,hb.kept hg (λe=>hD (Option.some.inj e))⟩,h.ints.below (Below.of_grown hg (by have:=h.le;omega) (λq e=>by cases e;exact hB)),h.le,h.len,h.low,h.not⟩
theorem M7.set (h:M7 w D BO fv fs S W)(q:Nat){x:Int}(fx:fits x):M7 w D BO fv fs S (W.setCell ⟨BO,q,none⟩ (.int .i64 x)) :=
 ⟨h.td.own h.lO h.dO h.nO q _,h.ob.set q fx,h.nO,h.lO,h.dO,h.bel.own (a0x W BO q _) (λr e=>by cases e;exact⟨h.nO,h.lO⟩)⟩
end
structure M8 (w:World)(D BO:Nat)(fv:Value)(fs:List Int)(E:Nat)(tv:Value)(ts:List Int)(S:BS)(W:World):Prop where
 m7:M7 w D BO fv fs S W
 te:TD S w.heap.size E tv ts W
 dE:D≠E
 oE:BO≠E
section
variable {w W W':World}{D BO E:Nat}{fv tv:Value}{fs ts:List Int}{S S':BS}
theorem M8.then_ (h:M8 w D BO fv fs E tv ts S W)(ht:TD S' w.heap.size E tv ts W')(he:Ev (b0f E) S W S' W'):M8 w D BO fv fs E tv ts S' W':=by
 have hX:∀b,b0f E b->w.heap.size<=b/\b≠D:=λb hb=>by cases hb;exact⟨h.te.le,λe=>h.dE e.symm⟩
 exact⟨⟨h.m7.td.ev he hX,h.m7.ob.ev he h.m7.nO h.oE,he.not h.m7.ob.lt h.m7.nO,h.m7.lO,h.m7.dO,h.m7.bel.wide he (λb hb=>(hX b hb).1)⟩,ht,h.dE,h.oE⟩
theorem M8.next (h:M8 w D BO fv fs E tv ts S W)(m:Int)(hm1:1<=m)(hm2:m<=1000000) :
 Calls prog 73 #[.pointer (some ⟨D,0,none⟩),.int .i64 m] W λe W'=>∃v,e= .returned (.int .i64 v)/\0<=v/\v<m/\M8 w D BO fv fs E tv ts S W'/\W.grownBy W' (some D)/\Ev (b0f D) S W S W':=by
 refine(h.m7.next m hm1 hm2).mono ?_;rintro e W'⟨v,rfl,h0,h1,h2,hg,he⟩;exact⟨v,rfl,h0,h1,⟨h2,h.te.ev he (λb hb=>by cases hb;exact⟨h.m7.td.le,h.dE⟩),h.dE,h.oE⟩,hg,he⟩
theorem M8.evo (h:M8 w D BO fv fs E tv ts S W)(he:Ev noB S W S' W'):M8 w D BO fv fs E tv ts S' W':=⟨h.m7.evo he,h.te.ev he (λ_ h=>h.elim),h.dE,h.oE⟩
theorem M8.up (h:M8 w D BO fv fs E tv ts S W)(hb:Below W.heap.size W W'):M8 w D BO fv fs E tv ts S W':=h.evo (Ev.of_below h.te.tw hb)
end
theorem Ints.mono {n₀ n₁:Nat}(h:n₀<=n₁){W:World}{v:Value}{xs:List Int}:Ints n₀ W v xs->Ints n₁ W v xs
 |⟨a,c,e,f⟩=>⟨a,c,e,λi hi=>by obtain⟨b,o,k1,k2,k3⟩:=f i hi;exact⟨b,o,k1,oM,k3⟩⟩
def Pt2 (v:Value):Prop:=∃x y,v= .agg #[.int .i64 x,.int .i64 y]/\fits x/\fits y
def Six (v:Value):Prop:=∃x0 x1 x2 x3 x4 x5,v= .agg #[.int .i64 x0,.int .i64 x1,.int .i64 x2,.int .i64 x3,.int .i64 x4,.int .i64 x5]/\fits x0/\fits x1/\fits x2/\fits x3/\fits x4/\fits x5
def d8d (v:Value):Prop:=∃x,v= .int .i64 x/\fits x
section
variable {w W W':World}{D BO E:Nat}{fv tv sv:Value}{fs ts ss:List Int}{S S':BS}
theorem M8.below (h:M8 w D BO fv fs E tv ts S W):Below w.heap.size w W:=h.m7.bel.below (λ_ h=>h.elim) (λ_ h=>h.elim) (yR _)
theorem M8.node (h:M8 w D BO fv fs E tv ts S W)(hs:Intz w.heap.size w sv ss)(i j:Int)(hi0:0<=i)(hi:i<=4)(hj0:0<=j)(hj:j<=4) :
 Calls prog 128 #[sv,.int .i64 i,.int .i64 j] W λe W'=>∃v,e= .returned v/\Pt2 v/\M8 w D BO fv fs E tv ts S W'/\Ev (b0f E) S W S W':=by
 obtain⟨i,rfl⟩:∃n:Nat,i=n:=⟨i.toNat,oM⟩;obtain⟨j,rfl⟩:∃n:Nat,j=n:=⟨j.toNat,oM⟩;refine(d2t sv ss i j W (Ints.mono h.below.size (hs.ints.below h.below)) hs.len oM oM).mono ?_;rintro e W'⟨⟨x,y,rfl,fx,fy⟩,hb⟩;exact⟨_,rfl,⟨x,y,rfl,fx,fy⟩,h.up hb,Ev.of_below h.te.tw hb⟩
theorem M8.wiggle (h:M8 w D BO fv fs E tv ts S W)(ax ay bx by_:Int)(fa:fits ax)(fb:fits ay)(fc:fits bx)(fd:fits by_) :
 Calls prog 127 #[.agg #[.int .i64 ax,.int .i64 ay],.agg #[.int .i64 bx,.int .i64 by_],.pointer (some ⟨E,0,none⟩)] W λe W'=>∃S' v,e= .returned v/\(∃n,SL S' W' 26 v n/\n<=6)/\M8 w D BO fv fs E tv ts S' W'/\Ev (b0f E) S W S' W':=by
 refine(c5u _ E tv ts S W h.te ax ay bx by_ fa fb fc fd).mono ?_;rintro e W'⟨S',v,n,rfl,h1,h2,h3,h4⟩;exact⟨S',v,rfl,⟨n,h1,h2⟩,h.then_ h3 h4,h4⟩
theorem M8.cell (h:M8 w D BO fv fs E tv ts S W)(a0 a1 a2 a3 a4 a5 cw ch i j:Int)(f0:fits a0)(f1:fits a1)(f2:fits a2)(f3:fits a3)(f4:fits a4)(f5:fits a5)(hw:cw<=3)(hh:ch<=2) :
 Calls prog 129 #[.agg #[.int .i64 a0,.int .i64 a1,.int .i64 a2,.int .i64 a3,.int .i64 a4,.int .i64 a5],.int .i64 cw,.int .i64 ch,.int .i64 i,.int .i64 j] W λe W'=>∃v,e= .returned v/\d8d v/\M8 w D BO fv fs E tv ts S W'/\Ev (b0f E) S W S W':=by
 refine(d2u a0 a1 a2 a3 a4 a5 cw ch i j W f0 f1 f2 f3 f4 f5 hw hh).mono ?_;rintro e W'⟨⟨x,rfl,fx⟩,hb⟩;exact⟨_,rfl,⟨x,rfl,fx⟩,h.up hb,Ev.of_below h.te.tw hb⟩
theorem M8.add (h:M8 w D BO fv fs E tv ts S W)(ev:Value)(m:Nat)(hse:SL S W 206 ev m)(hm:m<=100)(lv:Value)(n:Nat)(hsl:SL S W 26 lv n)(hn:n<=100)(l r:Int)(fl:fits l)(fr:fits r) :
 Calls prog 126 #[ev,lv,.int .i64 l,.int .i64 r,.pointer (some ⟨E,0,none⟩)] W λe W'=>∃S' v,e= .returned v/\(∃m',SL S' W' 206 v m'/\m'<=m+1)/\M8 w D BO fv fs E tv ts S' W'/\Ev (b0f E) S W S' W':=by
 refine(b6c _ E tv ts S W h.te ev m hse hm lv n hsl hn l r fl fr).mono ?_;rintro e W'⟨S',v,rfl,h1,h3,h4⟩;exact⟨S',v,rfl,h1,h.then_ h3 h4,h4⟩
theorem M8.island (h:M8 w D BO fv fs E tv ts S W)(ev:Value)(m:Nat)(hse:SL S W 206 ev m)(hm:m<=99)(x y a:Int)(fx:fits x)(fy:fits y)(fa:fits a) :
 Calls prog 130 #[ev,.agg #[.int .i64 x,.int .i64 y],.int .i64 a,.pointer (some ⟨E,0,none⟩)] W λe W'=>∃S' v,e= .returned v/\(∃m',SL S' W' 206 v m'/\m'<=m+1)/\M8 w D BO fv fs E tv ts S' W'/\Ev (b0f E) S W S' W':=by
 refine(c5v _ E tv ts S W h.te ev m hse hm x y a fx fy fa).mono ?_;rintro e W'⟨S',v,rfl,h1,h3,h4⟩;exact⟨S',v,rfl,h1,h.then_ h3 h4,h4⟩
theorem M7.third (h:M7 w D BO fv fs noB W)(ht:Intz w.heap.size w tv ts):M8 w D BO fv fs W.heap.size tv ts noB (W.alloc (.cells #[tv,.int .i64 0] 137)):=by
 have hb:Below W.heap.size W (W.alloc (.cells #[tv,.int .i64 0] 137)):=(zR _ _).alloc (yR _) _;have hB:Below w.heap.size w (W.alloc (.cells #[tv,.int .i64 0] 137)):=(h.bel.below (λ_ h=>h.elim) (λ_ h=>h.elim) (yR _)).trans (hb.mono h.bel.size);have hDl:=h.td.lt;have hOl:=h.ob.lt;exact⟨h.up hb,⟨TW.none _,⟨0,Nat.zero_le _,Blk.new _ _ _⟩,ht.ints.below hB,h.bel.size,ht.len,λ_ h=>h.elim,λh=>h⟩,oM,oM⟩
end
theorem Ev.join {g S':BS}{W W':World}(h:TW g W)(h3:Ev noB noB W S' W'):Ev noB g W (λb=>g b\/S' b) W':=by
 have h1:=Ev.of_below (X:=noB) h h3.low;refine⟨λb hb=> .inl hb,λb hb=> ?_,h3.os,h3.tape,h3.output,h3.size,λb hb _ _=>h3.rest b hb (λh=>h) (λh=>h),h1.shape,λb hb=> ?_⟩
 ·rcases hb with hb|hb
  ·exact .inl hb
  ·rcases h3.new b hb with h2|h2
   ·exact h2.elim
   ·exact .inr h2
 ·rcases hb with hb|hb
  ·obtain⟨c,e,hc,ht⟩:=h1.ok b hb
   exact⟨c,e,hc,ht.mono (λ_ h=> .inl h) (Shp.refl _ _)⟩
  ·obtain⟨c,e,hc,ht⟩:=h3.ok b hb
   exact⟨c,e,hc,ht.mono (λ_ h=> .inr h) (Shp.refl _ _)⟩
structure Bx1 (w:World)(B:Nat)(c:Array Value)(t:TypeId)(S:BS)(W:World):Prop where
 ev:Ev noB noB w S W
 b:Blk W B c t
 n:¬S B
 l:w.heap.size<=B
theorem Bx1.evo {w W W':World}{B:Nat}{c:Array Value}{t:TypeId}{S S':BS}(h:Bx1 w B c t S W)(he:Ev noB S W S' W'):Bx1 w B c t S' W':=⟨h.ev.trans he,he.blk h.b h.n (λh=>h),he.not h.b.lt h.n,h.l⟩
theorem Bx1.up {w W W':World}{B:Nat}{c:Array Value}{t:TypeId}{S:BS}(h:Bx1 w B c t S W)(hb:Below W.heap.size W W'):Bx1 w B c t S W':=h.evo (Ev.of_below h.ev.ok hb)
def FAt (B3:Nat)(ev:Value)(px py:Int)(i:Nat)(v:Value)(g:BS)(w:World):Prop :=
 match i with
 |0=>v=ev
 |1=>∃n,SL g w 249 v n/\n<=100
 |2=>v= .agg #[.int .i64 px,.int .i64 py]
 |3=>∃x b,v= .tuple #[.int .i64 x,.bool b]
 |4=>∃x,v= .int .i64 x
 |5=>∃b,v= .bool b
 |_=>False
theorem FAt.kept {B3:Nat}{ev:Value}{px py:Int}{i:Nat}{v:Value}{g g':BS}{w w':World}(h:FAt B3 ev px py i v g w)(hg:Ev noB g w g' w'):FAt B3 ev px py i v g' w':=by
 unfold FAt at *;split at h
 all_goals first|exact h|(obtain⟨n,h1,h2⟩:=h;exact⟨n,hg.sl h1,h2⟩)|(exact h)
theorem d6m (S:BS)(w:World)(hT:TW S w)(ev:Value)(m:Nat)(hse:SL S w 206 ev m)(hm:m<=100)(px py:Int)(fpx:fits px)(fpy:fits py) :
 Calls prog 134 #[ev,.agg #[.int .i64 px,.int .i64 py]] w λe w'=>d8c e/\Below w.heap.size w w':=by
 go_enter func134,ntmps134;go_upto_region 1 with fail;have h0:Bx1 w w.heap.size #[.int .i64 px,.int .i64 py] 26 noB (w.alloc (.cells #[.int .i64 px,.int .i64 py] 26)):=⟨Ev.of_below (TW.none _) zC,Blk.new _ _ _,λh=>h,yR _⟩;obtain⟨W1,hW1⟩:=zE (w.alloc (.cells #[.int .i64 px,.int .i64 py] 26));obtain⟨B3,hB3⟩:=zE w.heap.size;rw[hW1]at h0;rw[hW1];have h1:Bx1 w B3 #[.int .i64 px,.int .i64 py] 26 noB W1:=by rw[<-hB3];exact h0
 rw[hB3];clear h0 hW1 hB3;refine Go.wp_region_reln 6 zM zM (λ_ g W=>Bx1 w B3 #[.int .i64 px,.int .i64 py] 26 g W) (λg W g' W'=>Ev noB g W g' W') (FAt B3 ev px py) (λ_ _ _ _ _ _ h g=>h.kept g) noB (h1.evo (Ev.drew h1.ev.ok)) ?_ ?_
 ·intro i o hi ho c bb g W hc hM hA hD K hK
  match i,hi,ho with
  |0,_,ho =>
   cases ho;have f0:=a0a (v:=ev) (hA.at_ (k:=0) zM);go_simp;exact hK (ev) g W rfl (Ev.refl hM.ev.ok) hM
  |1,_,ho =>
   cases ho;have f6:=a0a (v:=ev) (a0d hD 0 6 zM rfl rfl);go_simp;have hTW:=Ev.of_below (X:=noB) hT hM.ev.low;refine(c6a S W hTW.ok ev m (hTW.sl hse) hm).mono ?_;rintro e W'⟨S',v,rfl,⟨n,h1,h2⟩,h3⟩;go_simp;have hj:=Ev.join hM.ev.ok h3;exact hK v _ W' ⟨n,h1.mono (λ_ h=> .inr h) (Shp.refl _ _),h2⟩ hj (hM.evo hj)
  |2,_,ho =>
   cases ho;have f3:=a0a (v:= .pointer (some ⟨B3,0,none⟩)) (hA.at_ (k:=3) zM);have z0:W.cell? ⟨B3,0,none⟩=some (.int .i64 px):=hM.b.cell 0;have z1:W.cell? ⟨B3,1,none⟩=some (.int .i64 py):=hM.b.cell 1;go_simp;exact hK (.agg #[.int .i64 px,.int .i64 py]) g W rfl (Ev.refl hM.ev.ok) hM
  |3,_,ho =>
   cases ho;have f7:=a0d hD 1 7 zM rfl rfl;have f8:=a0a (v:= .agg #[.int .i64 px,.int .i64 py]) (a0d hD 2 8 zM rfl rfl);obtain⟨n,h7,hn7⟩:=f7;obtain⟨tv,e7⟩:=zE (bb.eval (.tmp 7));rw[e7]at h7;have f7:=a0a e7;go_simp;refine(b9d g W hM.ev.ok tv n h7 hn7 px py fpx fpy).mono ?_;rintro e W'⟨⟨x,b,rfl⟩,hb⟩;go_simp;exact hK (.tuple #[.int .i64 x,.bool b]) g W' ⟨_,_,rfl⟩ (Ev.of_below hM.ev.ok hb) (hM.up hb)
  |4,_,ho =>
   cases ho;have f9:=a0d hD 3 9 zM rfl rfl;obtain⟨x,b,e9⟩:=f9;have f9:=a0a e9;go_simp;exact hK (.int .i64 x) g W ⟨_,rfl⟩ (Ev.refl hM.ev.ok) hM
  |5,_,ho =>
   cases ho;have f9:=a0d hD 3 9 zM rfl rfl;obtain⟨x,b,e9⟩:=f9;have f9:=a0a e9;go_simp;exact hK (.bool b) g W ⟨_,rfl⟩ (Ev.refl hM.ev.ok) hM
  |i+6,hi,_=>exact absurd hi oM
 ·intro bb g W hM hA hall
  obtain⟨x,hP4⟩:=(show ∃x,bb.eval (.tmp 10)= .int .i64 x from hall 4 oM _ _ rfl rfl);obtain⟨b,hP5⟩:=(show ∃b,bb.eval (.tmp 11)= .bool b from hall 5 oM _ _ rfl rfl);have hfr:=hA.frame [T,T,T,T,T,T,F,F,F,F,F,F] _ rfl zM;clear hall hA;obtain⟨f,hf⟩:∃f:Nat->Value,(λk=>bb.tmps.getD k undef)=f:=⟨_,rfl⟩;have g10:f 10= .int .i64 x:=by rw[<-hf,<-hP4];rfl
  have g11:f 11= .bool b:=by rw[<-hf,<-hP5];rfl
  rw[hf]at hfr;clear hf hP4 hP5;subst hfr;simp only[a1z,g10,g11,Nat.reduceAdd];clear g10 g11;simp only[zU];go_wp2_with fail;go_ret2;exact⟨⟨_,_,rfl⟩,hM.ev.low⟩
theorem SL.face {S:BS}{W:World}{b off n cap:Nat}(hT:TW S W)(h:SL S W 140 (.slice (some ⟨b,off,none⟩) n cap) n){k:Nat}(hk:k<n):∃id d,W.cell? ⟨b,off+k*5,none⟩=some (.int .i64 id)/\W.cell? ⟨b,off+k*5+4,none⟩=some (.int .i64 d)/\fits id/\fits d:=by
 obtain⟨u0,c0,h0⟩:=h.cell hT a1l hk 0 .int rfl;obtain⟨u4,c4,h4⟩:=h.cell hT a1l hk 4 .int rfl;obtain⟨id,rfl,f0⟩:=h0.i rfl;obtain⟨d,rfl,f4⟩:=h4.i rfl;exact⟨id,d,c0,c4,f0,f4⟩
abbrev b7p (ev fv wv pv:Value):Array Value:= #[ev,fv,wv,pv]
theorem b0t (S:BS)(w:World)(hT:TW S w)(ea fa wa pa:Option Addr)(en ec wn wc pn pc fc:Nat)(n:Nat)(hsf:SL S w 140 (.slice fa n fc) n)(hn:n<=200)(id:Int) :
 Calls prog 135 #[.agg (b7p (.slice ea en ec) (.slice fa n fc) (.slice wa wn wc) (.slice pa pn pc)),.int .i64 id] w λe w'=>(∃x,e= .returned (.int .i64 x)/\fits x)/\Below w.heap.size w w':=by
 go_enter func135,ntmps135;go_wp2_with fail;have hb:Below w.heap.size w (w.alloc (.cells (b7p (.slice ea en ec) (.slice fa n fc) (.slice wa wn wc) (.slice pa pn pc)) 37)):=zC;have k1:=(Blk.new w (b7p (.slice ea en ec) (.slice fa n fc) (.slice wa wn wc) (.slice pa pn pc)) 37).cell 1;have hev:=Ev.of_below (X:=noB) hT hb;obtain⟨W1,hW1⟩:=zE (w.alloc (.cells (b7p (.slice ea en ec) (.slice fa n fc) (.slice wa wn wc) (.slice pa pn pc)) 37));obtain⟨B,hB⟩:=zE w.heap.size;rw[hW1]at hb hev k1;rw[hW1];have c1:W1.cell? ⟨B,1,none⟩=some (.slice fa n fc):=by rw[<-hB];exact k1
 rw[hB];clear k1 hB hW1;have hsf1:=hev.sl hsf;go_loopw [5] (λkk wr=>∃k:Nat,k<=n/\kk= .int .i64 (k:Nat)/\wr=W1) (λkk _=>n-(intOf kk).toNat)
 case atStart=>exact⟨0,Nat.zero_le _,rfl,rfl⟩
 case round =>
  obtain⟨k,hk,rfl,rfl⟩:=hrel;by_cases hlt:k<n
  ·have hltI:(k:Int)<(n:Int):=oM
   obtain⟨b,off,cap',hab,-,-⟩:=hsf.some_ oM;simp only[Value.slice.injEq,true_and]at hab;obtain⟨rfl,rfl⟩:=hab;obtain⟨q,d,c0,c4,fq,fd⟩:=SL.face hev.ok hsf1 hlt;by_cases hqi:q=id
   ·subst hqi
    go_wp2_with fail;go_ret;exact⟨⟨_,rfl,fd⟩,hb⟩
   ·have hqb:(q==id)=false:=by simpa using hqi
    go_wp2_with fail;go_roundw
    case rel=>exact⟨k+1,oM,by go_num,by first|rfl|trivial⟩
    case measure=>simp[intOf];omega
  ·have hge:¬(k:Int)<(n:Int):=oM
   go_wp2_with fail;go_ret;exact⟨⟨_,rfl,⟨jM,jM⟩⟩,hb⟩
theorem a6w (i j:Int)(w:World):Calls prog 133 #[.int .i64 i,.int .i64 j] w λe w'=>(∃x y,e= .returned (.agg #[.int .i64 x,.int .i64 y])/\fits x/\fits y)/\Below w.heap.size w w':=by
 go_enter func133,ntmps133;go_wp2_with fail;have hk:=Blk.new w #[.int .i64 (wrap64 (55+wrap64 (80*i))),.int .i64 (wrap64 (65+wrap64 (70*j)))] 26;exact yhg
end
end Go.Proofs.YtfocdbjceedagaaGreatDoor
