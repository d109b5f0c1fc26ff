/-
  Parts.
-/
import Derived.Test.YtfocdbjceedagaaGreatDoorCai
set_option linter.unusedVariables false
set_option linter.unusedSimpArgs false
set_option maxHeartbeats 8000000
set_option maxRecDepth 100000
namespace Go.Proofs.YtfocdbjceedagaaGreatDoor
open Tryz
section
open Go.RowKit Go.Shelf
abbrev noB :BS:=λ_=>False
theorem Ev.more {X Y S S':BS}{W W':Wd}(h:Ev X S W S' W')(Pg:∀b,X b->Y b):Ev Y S W S' W' :=
 ⟨h.sub,h.new,h.os,h.tape,h.output,h.size,λb hb hn hy=>h.rest b hb hn (λhx=>hy (Pg b hx)),h.shape,h.ok⟩
theorem Ev.any {Y S S':BS}{W W':Wd}(h:Ev noB S W S' W'):Ev Y S W S' W':=h.more (λ_ h=>h.elim)
theorem Ev.own {X S S1:BS}{W W1 W2:Wd}{row:Option Nat}(h:Ev X S W S1 W1)(hg:W1.grownBy W2 row)(hr:∀r,row=some r->¬S1 r/\W.heap.size<=r):Ev X S W S1 W2:=by
 have h2:TW S1 W2:=h.ok.of_same (λb hb=>hg.block b (h.ok.lt hb) (λe=>(hr b e.symm).1 hb));exact⟨h.sub,h.new,hg.os.trans h.os,hg.tape.trans h.tape,hg.output.trans h.output,Nat.le_trans h.size hg.size,λb hb hn hx=>(hg.block b (Nat.lt_of_lt_of_le hb h.size) (λe=>by have:=(hr b e.symm).2;omega)).trans (h.rest b hb hn hx),λb c e hb hc=>by
  obtain⟨c',gj,hz⟩:=h.shape b c e hb hc;exact⟨c',(hg.block b gj.lt (λe=>(hr b e.symm).1 (h.sub b hb))).trans gj,hz⟩,h2⟩
structure ST (n₀ D:Nat)(sv:Vu)(xs:List Int)(S0:BS)(W0:Wd)(S:BS)(W:Wd):Prop where
 td:TD S n₀ D sv xs W
 ev:Ev (b1b D) S0 W0 S W
 lo:n₀<=W0.heap.size
theorem a0z (W:Wd)(b i:Nat)(v:Vu):W.grownBy (W.setCell ⟨b,i,none⟩ v) (some b) :=
 ⟨rfl,rfl,rfl,by simp,λk hk av=>Below.heap_setCell _ _ _ _ (λe=>av (by rw[e]))⟩
section
variable {n₀ D:Nat}{sv:Vu}{xs:List Int}{S0 S S':BS}{W0 W W':Wd}
theorem TD.st (h:TD S n₀ D sv xs W):ST n₀ D sv xs S W S W:=⟨h,Ev.refl h.tw,by have:=h.lt;have:=h.le;omega⟩
theorem ST.evo (h:ST n₀ D sv xs S0 W0 S W)(he:Ev noB S W S' W'):ST n₀ D sv xs S0 W0 S' W':=⟨h.td.ev he (λ_ h=>h.elim),h.ev.trans he.any,h.lo⟩
theorem ST.up (h:ST n₀ D sv xs S0 W0 S W)(hb:Below W.heap.size W W'):ST n₀ D sv xs S0 W0 S W':=h.evo (Ev.of_below h.td.tw hb)
theorem ST.alloc (h:ST n₀ D sv xs S0 W0 S W)(o:Obj):ST n₀ D sv xs S0 W0 S (W.alloc o):=h.up ((zR _ _).alloc (yR _) _)
theorem ST.allocT (h:ST n₀ D sv xs S0 W0 S W){c:Array Value}{e:Td}(hc:TB S W e c):ST n₀ D sv xs S0 W0 (λb=>S b\/b=W.heap.size) (W.alloc (.cells c e)):=h.evo (Ev.alloc h.td.tw hc)
theorem ST.call (h:ST n₀ D sv xs S0 W0 S W)(m:Int)(cV:1<=m)(fO:m<=4611686018427387904) :
 Calls prog 73 #[.pointer (some ⟨D,0,none⟩),.int .i64 m] W λe W'=>∃v,e= .returned (.int .i64 v)/\0<=v/\v<m/\ST n₀ D sv xs S0 W0 S W'/\W.grownBy W' (some D)/\Ev (b1b D) S W S W':=by
 refine(h.td.call m cV fO).mono ?_;rintro e W'⟨v,rfl,h0,h1,h2,hg,h3⟩;exact⟨v,rfl,h0,h1,⟨h2,h.ev.trans h3,h.lo⟩,hg,h3⟩
theorem ST.then_ (h:ST n₀ D sv xs S0 W0 S W)(h1:TD S' n₀ D sv xs W')(h2:Ev (b1b D) S W S' W'):ST n₀ D sv xs S0 W0 S' W':=⟨h1,h.ev.trans h2,h.lo⟩
theorem ST.own (h:ST n₀ D sv xs S0 W0 S W){r:Nat}(hr:W0.heap.size<=r)(hS:¬S r)(hD:r≠D)(i:Nat)(v:Vu):ST n₀ D sv xs S0 W0 S (W.setCell ⟨r,i,none⟩ v):=by
 have hg:=a0z W r i v;have ag:=h.td.lt;obtain⟨j,hj,hb⟩:=h.td.box;have he:=h.ev.own hg (λq e=>by cases e;exact⟨hS,hr⟩);have jr:=h.lo;exact⟨⟨he.ok,⟨j,hj,hb.kept hg (λe=>hD (Option.some.inj e))⟩,h.td.ints.below (Below.of_grown hg (by have:=h.td.le;omega) (λq e=>by cases e;omega)),h.td.le,h.td.len,h.td.low,h.td.not⟩,he,h.lo⟩
theorem ST.blk0 (h:ST n₀ D sv xs S0 W0 S W){b:Nat}{c:Array Value}{t:Td}(hb:Blk W0 b c t)(hn:¬S0 b)(hD:b≠D):Blk W b c t/\¬S b:=⟨h.ev.blk hb hn hD,h.ev.not hb.lt hn⟩
end
theorem pt2 {W:Wd}{b:Nat}{x y:Int}{t:Td}(h:Blk W b #[.int .i64 x,.int .i64 y] t):W.cell? ⟨b,0,none⟩=some (.int .i64 x)/\W.cell? ⟨b,1,none⟩=some (.int .i64 y)/\W.frozen? ⟨b,0,none⟩=false/\W.frozen? ⟨b,1,none⟩=false:=⟨h.cell 0,h.cell 1,h.frozen 0,h.frozen 1⟩
theorem a1a {S:BS}{W:Wd}(hT:TW S W){ops:Array Oper}{rest:List Oper}{o:Oper}{a:Act}{Q:Exit->Act->World->Prop}(dI:o.guard=none)(sO xO:Operand)(t:Td)(ho:o.op= .call { callee:= .builtin .append,args:= #[sO,xO],argTypes:= #[t,t] })
 {e:Td} {s:Nat} (ht:prog.underlying t=some (.slice e)) (he:ET e s) {v:Vu} {n:Nat} (bH:a.eval sO=v) (hv:SL S W e v n) {H:Nat} (dH:a.eval xO= .slice (some ⟨H,0,none⟩) 1 1) (hH:W.heap.size=H) {c:Array Value} (hc:TB S W e c) (dN:c.size=s) (hl:n<=1000)
 (h:∀v' S' w',SL S' w' e v' (n+1)->Ev noB S W S' w'->wpList prog ops Q rest (a.put o.dst v') w'):wpList prog ops Q (o::rest) a (W.alloc (.cells c e)):=by
 subst hH;have hA:=Ev.alloc (X:=noB) hT hc;refine a1q (X:=noB) hA.ok dI sO xO t ho ht he bH (hA.sl hv) dH (SL.blk (.inr rfl) (Blk.new W c e) (by rw[he.size,dN,Nat.one_mul];exact yR _)) oM λv' S' w' h1 h2=>h v' S' w' h1 (hA.trans h2)
theorem e2r (ax ay bx by_:Int)(w:Wd):Calls prog 163 #[.agg #[.int .i64 ax,.int .i64 ay],.agg #[.int .i64 bx,.int .i64 by_]] w λe w'=>(∃x y,e= .returned (.agg #[.int .i64 x,.int .i64 y])/\fits x/\fits y)/\Below w.heap.size w w':=by
 go_enter func163,ntmps163;go_wp2_with fail;have hk:=Blk.new ((w.alloc (.cells #[.int .i64 ax,.int .i64 ay] 26)).alloc (.cells #[.int .i64 bx,.int .i64 by_] 26)) #[.int .i64 (wrap64 (ax-bx)),.int .i64 (wrap64 (ay-by_))] 26;simp only[World.size_alloc]at hk;exact yid
theorem Shp.set {S:BS}{W:Wd}{B:Nat}(h:¬S B)(i:Nat)(v:Vu):Shp S W (W.setCell ⟨B,i,none⟩ v):=λb c e hb hc=>⟨c,hc.other (λq=>h (by subst q;exact hb)) i v,rfl⟩
structure WG7 (wr:Wd)(B3 BU:Nat)(ax ay ux uy:Int)(W:Wd):Prop where
 b:Below wr.heap.size wr W
 a:Blk W B3 #[.int .i64 ax,.int .i64 ay] 26
 u:Blk W BU #[.int .i64 ux,.int .i64 uy] 26
theorem WG7.up {wr:Wd}{B3 BU:Nat}{ax ay ux uy:Int}{W W':Wd}(h:WG7 wr B3 BU ax ay ux uy W)(hb:Below W.heap.size W W'):WG7 wr B3 BU ax ay ux uy W':=⟨h.b.trans (hb.mono h.b.size),h.a.below hb h.a.lt,h.u.below hb h.u.lt⟩
def FWg (wr:Wd)(B3 BU k M:Nat)(ax ay ux uy:Int)(i:Nat)(v:Vu)(w:Wd):Prop :=
 match i with
 |0=>v= .pointer (some ⟨B3,0,none⟩)
 |1=>v= .int .i64 ax
 |2=>v= .pointer (some ⟨BU,0,none⟩)
 |3=>v= .int .i64 ux
 |4=>v= .int .i64 (k:Nat)
 |5=>∃x,v= .int .i64 x/\fits x
 |6=>v= .int .i64 (M:Nat)
 |7=>v= .int .i64 ((M:Nat)+1)
 |8=>∃x,v= .int .i64 x/\fits x
 |9=>∃x,v= .int .i64 x/\fits x
 |10=>v= .pointer (some ⟨B3,1,none⟩)
 |11=>v= .int .i64 ay
 |12=>v= .pointer (some ⟨BU,1,none⟩)
 |13=>v= .int .i64 uy
 |14=>v= .int .i64 (k:Nat)
 |15=>∃x,v= .int .i64 x/\fits x
 |16=>v= .int .i64 (M:Nat)
 |17=>v= .int .i64 ((M:Nat)+1)
 |18=>∃x,v= .int .i64 x/\fits x
 |19=>∃x,v= .int .i64 x/\fits x
 |20=>∃X Y,v= .agg #[.int .i64 X,.int .i64 Y]/\fits X/\fits Y
 |21=>∃B,v= .pointer (some ⟨B,0,none⟩)/\wr.heap.size<=B/\Blk w B #[.int .i64 0,.int .i64 0] 26
 |_=>False
theorem FWg.kept {wr:Wd}{B3 BU k M:Nat}{ax ay ux uy:Int}{i:Nat}{v:Vu}{w w':Wd}(h:FWg wr B3 BU k M ax ay ux uy i v w)(hg:Below w.heap.size w w'):FWg wr B3 BU k M ax ay ux uy i v w':=by
 unfold FWg at *;exact yjn
theorem c6y (n₀ D:Nat)(sv:Vu)(xs:List Int)(S:BS)(w:Wd)(h:TD S n₀ D sv xs w)(ax ay bx by_:Int)(fa:fits ax)(fb:fits ay)(fc:fits bx)(fd:fits by_) :
 Calls prog 127 #[.agg #[.int .i64 ax,.int .i64 ay],.agg #[.int .i64 bx,.int .i64 by_],.pointer (some ⟨D,0,none⟩)] w λe w'=>∃S' v n,e= .returned v/\SL S' w' 26 v n/\n<=6/\TD S' n₀ D sv xs w'/\Ev (b1b D) S w S' w':=by
 have ag:=λb hb=>h.tw.lt (b:=b) hb
 have mF:=h.lt;go_enter func127,ntmps127;go_upto_region 2 with fail;refine a0m (λW1 aH=> ?_);have fB:ST n₀ D sv xs S w (λb=>S b\/b=w.heap.size+1+1) W1:=by
  have h1:=((h.st.alloc (.cells #[.int .i64 ax,.int .i64 ay] 26)).alloc (.cells #[.int .i64 bx,.int .i64 by_] 26)).allocT (a6c fa fb);exact ykc
 have kC:Blk W1 (w.heap.size+1+1) #[.int .i64 ax,.int .i64 ay] 26:=by
  have h1:=Blk.new ((w.alloc (.cells #[.int .i64 ax,.int .i64 ay] 26)).alloc (.cells #[.int .i64 bx,.int .i64 by_] 26)) #[.int .i64 ax,.int .i64 ay] 26;exact ykc
 have kA:Blk W1 w.heap.size #[.int .i64 ax,.int .i64 ay] 26:=by
  rw[aH];exact((Blk.new w _ _).alloc _).alloc _
 have kB:Blk W1 (w.heap.size+1) #[.int .i64 bx,.int .i64 by_] 26:=by
  have h1:=(Blk.new (w.alloc (.cells #[.int .i64 ax,.int .i64 ay] 26)) #[.int .i64 bx,.int .i64 by_] 26).alloc (.cells #[.int .i64 ax,.int .i64 ay] 26);exact ykc
 have Fz:SL (λb=>S b\/b=w.heap.size+1+1) W1 26 (.slice (some ⟨w.heap.size+1+1,0,none⟩) 1 1) 1:=SL.blk (.inr rfl) kC (by show 1*2<=2;omega);clear aH kC;obtain⟨S1,ny⟩:∃S1:BS,(λb=>S b\/b=w.heap.size+1+1)=S1:=⟨_,rfl⟩;have nA:¬S1 w.heap.size:=by
  rw[<-ny];rintro(h|h)
  ·have:=ag _ h;omega
  ·omega
 have nB:¬S1 (w.heap.size+1):=by
  rw[<-ny];rintro(h|h)
  ·have:=ag _ h;omega
  ·omega
 have dA:w.heap.size≠D:=oM;have dB:w.heap.size+1≠D:=oM;rw[ny]at fB Fz;clear ny ag mF;obtain⟨B4,bZ⟩:=zE (w.heap.size+1);obtain⟨B5,fQ⟩:=zE (w.heap.size+1+1);obtain⟨B3,aN⟩:=zE w.heap.size;rw[bZ]at kB nB dB;rw[fQ]at Fz;rw[aN]at kA nA dA;rw[fQ,bZ,aN];clear fQ bZ aN;go_upto_region 4 with(first
  |(go_at_call 73;refine(fB.call 4 oM oM).mono ?_;rintro e W2⟨many,rfl,m0,m1,cH,cf,iH⟩;have si:=kA.kept cf (λe=>dA (Option.some.inj e).symm);have vg:=kB.kept cf (λe=>dB (Option.some.inj e).symm);obtain⟨a0,a1,-,-⟩:=pt2 si;obtain⟨b0,b1,-,-⟩:=pt2 vg)
  |(go_at_call 163;refine(e2r _ _ _ _ _).mono ?_;rintro e W3⟨⟨ux,uy,rfl,fu,fv⟩,aV⟩))
 have Hp:=(cH.up aV).td.tw;have nx:=(cH.up aV).alloc (.cells #[.int .i64 ux,.int .i64 uy] 26);have kU:=Blk.new W3 #[.int .i64 ux,.int .i64 uy] 26;have BH:=(si.below aV si.lt).alloc (.cells #[.int .i64 ux,.int .i64 uy] 26);have BI:=(vg.below aV vg.lt).alloc (.cells #[.int .i64 ux,.int .i64 uy] 26);have nU:¬S1 W3.heap.size:=λhU=>Nat.lt_irrefl _ (Hp.lt hU)
 have dU:W3.heap.size≠D:=λe=>by have:=(cH.up aV).td.lt;omega
 have xF:=(Ev.of_below (X:=noB) Hp ((zR _ _).alloc (yR _) (.cells #[.int .i64 ux,.int .i64 uy] 26))).sl ((Ev.of_below (X:=noB) cH.td.tw aV).sl (iH.sl Fz));obtain⟨BU,Hq⟩:=zE W3.heap.size;obtain⟨Wb,Hr⟩:=zE (W3.alloc (.cells #[.int .i64 ux,.int .i64 uy] 26));rw[Hr]at nx kU BH BI xF;rw[Hq]at kU nU dU;rw[Hq,Hr];clear Hq Hr Hp kA kB si vg a0 a1 b0 b1 fB Fz cH cf iH aV;obtain⟨v1,iI⟩:=zE (Value.slice (some ⟨B5,0,none⟩) 1 1);rw[iI]at xF;rw[iI];clear iI;obtain⟨M,rfl⟩:∃M:Nat,many=M:=⟨many.toNat,oM⟩;go_wp2_with fail;go_loopw [7,10] (λv kk wr=>∃(k:Nat) (S':BS) (n:Nat),1<=k/\k<=M+1/\kk= .int .i64 (k:Nat)/\n<=k/\SL S' wr 26 v n/\ST n₀ D sv xs S1 Wb S' wr) (λ_ kk _=>M+1-(intOf kk).toNat)
 case atStart=>exact⟨1,S1,1,oM,oM,rfl,oM,xF,nx.td.st⟩
 case round =>
  obtain⟨k,S',n,jR,LU,rfl,hn,dm,au⟩:=hrel;obtain⟨kA,TP⟩:=au.blk0 BH nA dA;obtain⟨kB,TQ⟩:=au.blk0 BI nB dB;obtain⟨CR,TR⟩:=au.blk0 kU nU dU;by_cases ag:k<=M
  ·have aA:(k:Int)<=(M:Int):=oM
   have qF:¬(M:Int)+1=0:=oM;have Ph:IntKind.i64.wrap ((M:Int)+1)=M+1:=a0j oM oM;obtain⟨a0,a1,-,-⟩:=pt2 kA;obtain⟨b0,b1,-,-⟩:=pt2 kB;obtain⟨u0,u1,-,-⟩:=pt2 CR;go_upto_region 7 with fail;refine Go.wp_region_rel 22 zM zM (λ_ W=>WG7 wr B3 BU ax ay ux uy W) (λw w'=>Below w.heap.size w w') (FWg wr B3 BU k M ax ay ux uy) (λ_ _ _ _ h g=>h.kept g) ⟨(zR _ _).drew,kA.drew,CR.drew⟩ ?_ ?_
   ·clear au dm kA kB CR
    intro i o hi ho c bb W hc hM hA hD K hK;match i,hi,ho with
    |0,_,ho =>
     cases ho;have f3:=a0a (v:= .pointer (some ⟨B3,0,none⟩)) (hA.at_ (k:=3) zM);go_simp;exact hK (.pointer (some ⟨B3,0,none⟩)) W rfl (zR _ _) hM
    |1,_,ho =>
     cases ho;have f25:=a0a (v:= .pointer (some ⟨B3,0,none⟩)) (a0b hD 0 25 zM rfl rfl);have z0:W.cell? ⟨B3,0,none⟩=some (.int .i64 ax):=hM.a.cell 0;go_simp;exact hK (.int .i64 ax) W rfl (zR _ _) hM
    |2,_,ho =>
     cases ho;have f9:=a0a (v:= .pointer (some ⟨BU,0,none⟩)) (hA.at_ (k:=9) zM);go_simp;exact hK (.pointer (some ⟨BU,0,none⟩)) W rfl (zR _ _) hM
    |3,_,ho =>
     cases ho;have f27:=a0a (v:= .pointer (some ⟨BU,0,none⟩)) (a0b hD 2 27 zM rfl rfl);have z0:W.cell? ⟨BU,0,none⟩=some (.int .i64 ux):=hM.u.cell 0;go_simp;exact hK (.int .i64 ux) W rfl (zR _ _) hM
    |4,_,ho =>
     exact yct
    |5,_,ho =>
     cases ho;have f28:=a0a (v:= .int .i64 ux) (a0b hD 3 28 zM rfl rfl);have f29:=a0a (v:= .int .i64 (k:Nat)) (a0b hD 4 29 zM rfl rfl);exact yce
    |6,_,ho =>
     exact ykj
    |7,_,ho =>
     cases ho;have f31:=a0a (v:= .int .i64 (M:Nat)) (a0b hD 6 31 zM rfl rfl);exact ygh
    |8,_,ho =>
     cases ho;have f30:=a0b hD 5 30 zM rfl rfl;obtain⟨TS,Pj,Hs⟩:=f30;have f30:=a0a Pj;have f32:=a0a (v:= .int .i64 ((M:Nat)+1)) (a0b hD 7 32 zM rfl rfl);exact yce
    |9,_,ho =>
     cases ho;have f26:=a0a (v:= .int .i64 ax) (a0b hD 1 26 zM rfl rfl);have f33:=a0b hD 8 33 zM rfl rfl;obtain⟨TT,Pk,TU⟩:=f33;have f33:=a0a Pk;exact yce
    |10,_,ho =>
     cases ho;have f3:=a0a (v:= .pointer (some ⟨B3,0,none⟩)) (hA.at_ (k:=3) zM);go_simp;exact hK (.pointer (some ⟨B3,1,none⟩)) W rfl (zR _ _) hM
    |11,_,ho =>
     cases ho;have f35:=a0a (v:= .pointer (some ⟨B3,1,none⟩)) (a0b hD 10 35 zM rfl rfl);have z0:W.cell? ⟨B3,1,none⟩=some (.int .i64 ay):=hM.a.cell 1;go_simp;exact hK (.int .i64 ay) W rfl (zR _ _) hM
    |12,_,ho =>
     cases ho;have f9:=a0a (v:= .pointer (some ⟨BU,0,none⟩)) (hA.at_ (k:=9) zM);go_simp;exact hK (.pointer (some ⟨BU,1,none⟩)) W rfl (zR _ _) hM
    |13,_,ho =>
     cases ho;have f37:=a0a (v:= .pointer (some ⟨BU,1,none⟩)) (a0b hD 12 37 zM rfl rfl);have z0:W.cell? ⟨BU,1,none⟩=some (.int .i64 uy):=hM.u.cell 1;go_simp;exact hK (.int .i64 uy) W rfl (zR _ _) hM
    |14,_,ho =>
     exact yct
    |15,_,ho =>
     cases ho;have f38:=a0a (v:= .int .i64 uy) (a0b hD 13 38 zM rfl rfl);have f39:=a0a (v:= .int .i64 (k:Nat)) (a0b hD 14 39 zM rfl rfl);exact yce
    |16,_,ho =>
     exact ykj
    |17,_,ho =>
     cases ho;have f41:=a0a (v:= .int .i64 (M:Nat)) (a0b hD 16 41 zM rfl rfl);exact ygh
    |18,_,ho =>
     cases ho;have f40:=a0b hD 15 40 zM rfl rfl;obtain⟨TV,LV,Ht⟩:=f40;have f40:=a0a LV;have f42:=a0a (v:= .int .i64 ((M:Nat)+1)) (a0b hD 17 42 zM rfl rfl);exact yce
    |19,_,ho =>
     cases ho;have f36:=a0a (v:= .int .i64 ay) (a0b hD 11 36 zM rfl rfl);have f43:=a0b hD 18 43 zM rfl rfl;obtain⟨TX,Pm,zO⟩:=f43;have f43:=a0a Pm;exact yce
    |20,_,ho =>
     cases ho;have f34:=a0b hD 9 34 zM rfl rfl;obtain⟨TY,Po,Pp⟩:=f34;have f34:=a0a Po;have f44:=a0b hD 19 44 zM rfl rfl;obtain⟨TZ,LW,Pq⟩:=f44;have f44:=a0a LW;go_simp;exact hK _ W ⟨_,_,rfl,Pp,Pq⟩ (zR _ _) hM
    |21,_,ho =>
     exact yge
    |i+22,hi,_=>exact absurd hi oM
   ·intro bb W hM hA ah
    obtain⟨X,Y,CS,fX,fY⟩:=(show ∃X Y,bb.eval (.tmp 45)= .agg #[.int .i64 X,.int .i64 Y]/\fits X/\fits Y from ah 20 oM _ _ rfl rfl);obtain⟨B,CU,nz,vu⟩:=(show ∃B,bb.eval (.tmp 11)= .pointer (some ⟨B,0,none⟩)/\wr.heap.size<=B/\Blk W B #[.int .i64 0,.int .i64 0] 26 from ah 21 oM _ _ rfl rfl);have aC:=hA.frame (rT 11 (rF 1 (rT 13 (rF 21 (rT 30 ([])))))) _ rfl zM;clear ah hA;obtain⟨f,hf⟩:=zDt bb;have LX:f 45= .agg #[.int .i64 X,.int .i64 Y]:=by rw[<-hf,<-CS];rfl
    have g11:f 11= .pointer (some ⟨B,0,none⟩):=by rw[<-hf,<-CU];rfl
    rw[hf]at aC;clear hf CS CU;subst aC;simp only[rT,rF,a2d,LX,g11,Nat.reduceAdd];clear LX g11;simp only[zU];have sU:=vu.frozen 0;have sV:=vu.frozen 1;obtain⟨q0,q1,-,-⟩:=pt2 vu;go_upto_region 8 with fail;refine a0m (λW5 iq=> ?_);have FA:Below wr.heap.size wr W5:=by
     rw[iq];exact(hM.b.setCell (p:=⟨B,0,none⟩) nz _).setCell (p:=⟨B,1,none⟩) nz _
    have kP:Blk W5 B #[.int .i64 X,.int .i64 Y] 26:=by
     have h9:=(vu.set 0 (.int .i64 X)).set 1 (.int .i64 Y);rw[iq];simpa using h9
    clear iq q0 q1 sU sV vu hM a0 a1 b0 b1;have CV:=au.up FA;have nP:¬S' B:=λhB=>by have:=au.td.tw.lt hB;omega
    have dP:B≠D:=λe=>by have:=au.td.lt;omega
    have LY:=CR.below FA CR.lt;have CW:=(Ev.of_below (X:=noB) au.td.tw FA).sl dm;have Hu:Wb.heap.size<=B:=Nat.le_trans au.ev.size nz;clear u0 u1 dm FA au;have tO:¬IntKind.i64.wrap (1+IntKind.i64.wrap ((M:Int).tdiv 2))=0:=by
     rw[Int.tdiv_eq_ediv_of_nonneg oM,a0j (x:=(M:Int) / 2) oM oM,a0j oM oM];omega
    have nC:(M:Int).tdiv 2=(M:Int) / 2:=Int.tdiv_eq_ediv_of_nonneg oM;have pZ:0<=(M:Int) / 2/\(M:Int) / 2<=2:=oM;obtain⟨Hv,Hw⟩:=zE ((M:Int).tdiv 2);rw[<-nC]at pZ;rw[Hw]at pZ tO;obtain⟨Ps,Pt⟩:=pZ;have T0:¬1+Hv=0:=oM;clear nC;by_cases T1:uy<ux
    all_goals
     go_upto_region 12 with(first
      |(go_at_call 73;refine(CV.call 21 oM oM).mono ?_;rintro e W6⟨dr,rfl,r0,r1,CX,xG,jP⟩;have FB:=kP.kept xG (λe=>dP (Option.some.inj e).symm);have LZ:=LY.kept xG (λe=>dU (Option.some.inj e).symm);obtain⟨u0,u1,-,-⟩:=pt2 LZ;obtain⟨p0,p1,sU,sV⟩:=pt2 FB))
     refine a0m (λW7 xH=> ?_);have CY:ST n₀ D sv xs S1 Wb S' W7:=by
      rw[xH];exact CX.own Hu nP dP _ _
     have Hx:SL S' W7 26 u7 n:=by
      rw[xH];exact SL.mono (jP.sl CW) (λ_ h=>h) (Shp.set nP _ _)
     obtain⟨X',Y',Pu,Pv,Pw⟩:∃X' Y',fits X'/\fits Y'/\Blk W7 B #[.int .i64 X',.int .i64 Y'] 26:=by
      rw[xH];first
       |exact⟨_,_,fX,a1c _,by simpa using FB.set 1 (.int .i64 (wrap64 (Y+(dr-10).tdiv (1+Hv))))⟩
       |exact⟨_,_,a1c _,fY,by simpa using FB.set 0 (.int .i64 (wrap64 (X+(dr-10).tdiv (1+Hv))))⟩
     obtain⟨p0,p1,-,-⟩:=pt2 Pw;clear xH CX FB LZ u0 u1 kP LY CV sU sV xG jP CW;go_wp2_with (first
      |(at_builtin;refine a1a CY.td.tw qM _ _ 147 qM underlying147 a1z qM Hx qM rfl (a6c Pu Pv) rfl oM ?_;intro v9 S9 w9 aX cG))
     go_roundw
     case rel=>exact⟨k+1,S9,n+1,oM,oM,by go_num,oM,aX,CY.evo cG⟩
     case measure=>simp[intOf];omega
  ·obtain rfl:k=M+1:=oM
   have aY:¬((M:Int)+1<=(M:Int)):=oM;obtain⟨b0,b1,-,-⟩:=pt2 kB;go_wp2_with (first
    |(at_builtin;refine a1a au.td.tw qM _ _ 147 qM underlying147 a1z qM dm qM rfl (a6c fc fd) rfl oM ?_;intro v9 S9 w9 aX cG))
   go_ret;exact⟨S9,v9,rfl,n+1,aX,oM,(au.evo cG).td,(nx.then_ (au.evo cG).td (au.evo cG).ev).ev⟩
theorem Ev.adopt {X S0 S:BS}{W0 W:Wd}(h:Ev X S0 W0 S W){L:Nat}{c:Array Value}{e:Td}(hL:W0.heap.size<=L)(hb:Blk W L c e)(hc:TB S W e c):Ev X S0 W0 (λb=>S b\/b=L) W :=
 ⟨λb hb=> .inl (h.sub b hb),λb hb=>by
  rcases hb with hb|rfl
  ·exact h.new b hb
  ·exact .inr hL,h.os,h.tape,h.output,h.size,h.rest,h.shape,λb gW=>by
  rcases gW with gW|rfl
  ·obtain⟨c',e',h1,h2⟩:=h.ok b gW
   exact⟨c',e',h1,h2.mono (λ_ h=> .inl h) (Shp.refl _ _)⟩
  ·exact⟨c,e,hb,hc.mono (λ_ h=> .inl h) (Shp.refl _ _)⟩⟩
theorem SL.point {S:BS}{W:Wd}{b off n cap:Nat}(hT:TW S W)(h:SL S W 26 (.slice (some ⟨b,off,none⟩) n cap) n){k:Nat}(hk:k<n):∃x y,W.cell? ⟨b,off+k*2,none⟩=some (.int .i64 x)/\W.cell? ⟨b,off+k*2+1,none⟩=some (.int .i64 y)/\fits x/\fits y:=by
 obtain⟨u0,c0,h0⟩:=h.cell hT a1z hk 0 .int rfl;obtain⟨u1,c1,h1⟩:=h.cell hT a1z hk 1 .int rfl;obtain⟨x,rfl,fx⟩:=h0.i rfl;obtain⟨y,rfl,fy⟩:=h1.i rfl;exact⟨x,y,c0,c1,fx,fy⟩
abbrev edC (id:Int)(lv:Vu)(l r:Int):Array Value:= #[.int .i64 id,lv,.int .i64 l,.int .i64 r]
theorem ed4 {W:Wd}{B:Nat}{id l r:Int}{lv:Vu}{t:Td}(h:Blk W B (edC id lv l r) t):W.cell? ⟨B,0,none⟩=some (.int .i64 id)/\W.cell? ⟨B,1,none⟩=some lv/\W.cell? ⟨B,2,none⟩=some (.int .i64 l)/\W.cell? ⟨B,3,none⟩=some (.int .i64 r):=⟨h.cell 0,h.cell 1,h.cell 2,h.cell 3⟩
structure T3 (S0:BS)(W0:Wd)(BE:Nat)(cE:Array Value)(BR:Nat)(cR:Array Value)(BO:Nat)(cO:Array Value)(t:Td)(S:BS)(W:Wd):Prop where
 ev:Ev noB S0 W0 S W
 e:Blk W BE cE t
 r:Blk W BR cR t
 o:Blk W BO cO t
 ne:¬S BE
 nr:¬S BR
 no:¬S BO
 le:W0.heap.size<=BE
 lr:W0.heap.size<=BR
 lo:W0.heap.size<=BO
 d:BE≠BO
 dr:BR≠BO
section
variable {S0 S S':BS}{W0 W W':Wd}{BE BR BO:Nat}{cE cR cO:Array Value}{t:Td}
theorem T3.evo (h:T3 S0 W0 BE cE BR cR BO cO t S W)(he:Ev noB S W S' W'):T3 S0 W0 BE cE BR cR BO cO t S' W':=⟨h.ev.trans he,he.blk h.e h.ne (λh=>h),he.blk h.r h.nr (λh=>h),he.blk h.o h.no (λh=>h),he.not h.e.lt h.ne,he.not h.r.lt h.nr,he.not h.o.lt h.no,h.le,h.lr,h.lo,h.d,h.dr⟩
theorem T3.set (h:T3 S0 W0 BE cE BR cR BO cO t S W)(i:Nat)(v:Vu):T3 S0 W0 BE cE BR cR BO (cO.setIfInBounds i v) t S (W.setCell ⟨BO,i,none⟩ v) :=
 ⟨h.ev.own (a0z W BO i v) (λr e=>by cases e;exact⟨h.no,h.lo⟩),h.e.other h.d i v,h.r.other h.dr i v,h.o.set i v,h.ne,h.nr,h.no,h.le,h.lr,h.lo,h.d,h.dr⟩
end
theorem T3.done {S0 S:BS}{W0 W:Wd}{BE BR BO:Nat}{cE cO:Array Value}{t:Td}{a b c d:Vu}(h:T3 S0 W0 BE cE BR #[a,b,c,d] BO cO t S W)(x y z u:Vu) :
 Ev noB S0 W0 S ((((W.setCell ⟨BR,0,none⟩ x).setCell ⟨BR,1,none⟩ y).setCell ⟨BR,2,none⟩ z).setCell ⟨BR,3,none⟩ u)/\Blk ((((W.setCell ⟨BR,0,none⟩ x).setCell ⟨BR,1,none⟩ y).setCell ⟨BR,2,none⟩ z).setCell ⟨BR,3,none⟩ u) BR #[x,y,z,u] t /\
  Shp S W ((((W.setCell ⟨BR,0,none⟩ x).setCell ⟨BR,1,none⟩ y).setCell ⟨BR,2,none⟩ z).setCell ⟨BR,3,none⟩ u):=by
 have hr:∀r,some BR=some r->¬S r/\W0.heap.size<=r:=λr e=>by cases e;exact⟨h.nr,h.lr⟩
 refine⟨(((h.ev.own (a0z _ BR 0 x) hr).own (a0z _ BR 1 y) hr).own (a0z _ BR 2 z) hr).own (a0z _ BR 3 u) hr,?_,?_⟩
 ·simpa using (((h.r.set 0 x).set 1 y).set 2 z).set 3 u
 ·exact(((Shp.set h.nr 0 x).trans (Shp.set h.nr 1 y) (λ_ h=>h)).trans (Shp.set h.nr 2 z) (λ_ h=>h)).trans (Shp.set h.nr 3 u) (λ_ h=>h)
structure TuI (wr:Wd)(BE BO b off q:Nat)(id l r:Int)(lv ov:Vu)(x y:Int)(W:Wd):Prop where
 bel:Below wr.heap.size wr W
 e:Blk W BE (edC id lv l r) 206
 o:Blk W BO (edC id ov r l) 206
 x:W.cell? ⟨b,off+q*2,none⟩=some (.int .i64 x)
 y:W.cell? ⟨b,off+q*2+1,none⟩=some (.int .i64 y)
theorem TuI.up {wr W W':Wd}{BE BO b off q:Nat}{id l r:Int}{lv ov:Vu}{x y:Int}(h:TuI wr BE BO b off q id l r lv ov x y W)(hb:Below W.heap.size W W'):TuI wr BE BO b off q id l r lv ov x y W' :=
 ⟨h.bel.trans (hb.mono h.bel.size),h.e.below hb h.e.lt,h.o.below hb h.o.lt,(hb.cell (p:=⟨b,off+q*2,none⟩) (World.block_lt_of_cell? _ _ h.x)).trans h.x,(hb.cell (p:=⟨b,off+q*2+1,none⟩) (World.block_lt_of_cell? _ _ h.y)).trans h.y⟩
def FTu (wr:Wd)(BE BO b off q n ar:Nat)(ov:Vu)(x y:Int)(i:Nat)(v:Vu)(w:Wd):Prop :=
 match i with
 |0=>v= .pointer (some ⟨BO,1,none⟩)
 |1=>v=ov
 |2=>v= .pointer (some ⟨BE,1,none⟩)
 |3=>v= .slice (some ⟨b,off,none⟩) n ar
 |4=>v= .int .i64 (q:Nat)
 |5=>v= .pointer (some ⟨b,off+q*2,none⟩)
 |6=>v= .agg #[.int .i64 x,.int .i64 y]
 |7=>∃L,v= .slice (some ⟨L,0,none⟩) 1 1/\wr.heap.size<=L/\Blk w L #[.int .i64 x,.int .i64 y] 26
 |_=>False
theorem FTu.kept {wr:Wd}{BE BO b off q n ar:Nat}{ov:Vu}{x y:Int}{i:Nat}{v:Vu}{w w':Wd}(h:FTu wr BE BO b off q n ar ov x y i v w)(hg:Below w.heap.size w w'):FTu wr BE BO b off q n ar ov x y i v w':=by
 unfold FTu at *;exact yjx
theorem b5q (S:BS)(w:Wd)(hT:TW S w)(id l r:Int)(lv:Vu)(n:Nat)(dm:SL S w 26 lv n)(hn:n<=100)(FC:fits id)(fl:fits l)(fr:fits r) :
 Calls prog 137 #[.agg (edC id lv l r)] w λe w'=>∃S' v,e= .returned (.agg (edC id v r l))/\SL S' w' 26 v n/\Ev noB S w S' w':=by
 obtain⟨la,ar,rfl,nW⟩:=dm.form;go_enter func137,ntmps137;go_wp2_with fail;have ag:=λb hb=>hT.lt (b:=b) hb
 have h3:T3 S w w.heap.size (edC id (.slice la n ar) l r) (w.heap.size+1) edZ (w.heap.size+1+1) (edC id (.slice none 0 0) r l) 206 S (((w.alloc (.cells (edC id (.slice la n ar) l r) 206)).alloc (.cells edZ 206)).alloc (.cells (edC id (.slice none 0 0) r l) 206)):=by
  have hb:Below w.heap.size w (((w.alloc (.cells (edC id (.slice la n ar) l r) 206)).alloc (.cells edZ 206)).alloc (.cells (edC id (.slice none 0 0) r l) 206)):=zC;have k1:=Blk.new (w.alloc (.cells (edC id (.slice la n ar) l r) 206)) edZ 206;have k2:=Blk.new ((w.alloc (.cells (edC id (.slice la n ar) l r) 206)).alloc (.cells edZ 206)) (edC id (.slice none 0 0) r l) 206;simp only[World.size_alloc]at k1 k2;exact⟨Ev.of_below hT hb,((Blk.new w _ _).alloc _).alloc _,k1.alloc _,k2,λh=>by have:=ag _ h;omega,λh=>by have:=ag _ h;omega,λh=>by have:=ag _ h;omega,yR _,oM,oM,oM,oM⟩
 obtain⟨W1,aH⟩:=zE ((((w.alloc (.cells (edC id (.slice la n ar) l r) 206)).alloc (.cells edZ 206)).alloc (.cells (edC id (.slice none 0 0) r l) 206)));rw[aH]at h3;rw[aH];clear aH ag;obtain⟨BR,sx⟩:=zE (w.heap.size+1);obtain⟨BO,qG⟩:=zE (w.heap.size+1+1);obtain⟨BE,mG⟩:=zE w.heap.size;rw[qG,sx,mG]at h3;rw[qG,sx,mG];clear qG sx mG;go_loopw [4] (λkk wr=>∃(t:Nat) (S':BS) (ov:Vu),t<=n/\kk= .int .i64 ((t:Int)-1)/\SL S' wr 26 ov (n-t)/\T3 S w BE (edC id (.slice la n ar) l r) BR edZ BO (edC id ov r l) 206 S' wr) (λkk _=>(intOf kk+1).toNat)
 case atStart=>exact⟨n,S,.slice none 0 0,yR _,rfl,by rw[Nat.sub_self];exact SL.nil _ _ _,h3⟩
 case round =>
  clear h3;obtain⟨t,S',ov,ht,jI,mg,h3⟩:=hrel
  cases t with
  |zero =>
   subst jI;obtain⟨oa,oc,rfl,-⟩:=mg.form;rw[Nat.sub_zero]at mg h3;obtain⟨o0,o1,o2,o3⟩:=ed4 h3.o;have f0:=h3.r.frozen 0;have f1:=h3.r.frozen 1;have f2:=h3.r.frozen 2;have f3:=h3.r.frozen 3;obtain⟨r0,r1,r2,r3⟩:=ed4 h3.r;obtain⟨bC,aL,bO⟩:=h3.done (.int .i64 id) (.slice oa n oc) (.int .i64 r) (.int .i64 l);clear h3;go_wp2_with fail;exact bodyPost_ret (results_cell_row qM _ _ BR 206 _ (0,0) _ qM aL underlying206 qM zM) rfl ⟨_,_,rfl,mg.mono (λ_ h=>h) bO,bC⟩
  |succ q =>
   rw[show(((q+1:Nat):Int)-1)=(q:Int)from by omega]at jI;subst jI;have Hy:=h3.ev.sl dm;obtain⟨b,off,aI,bL,-,-⟩:=dm.some_ oM;simp only[Value.slice.injEq,true_and]at bL;obtain⟨rfl,rfl⟩:=bL;obtain⟨x,y,c0,c1,fx,fy⟩:=SL.point h3.ev.ok Hy (k:=q) oM;have tO:0<=(q:Int):=oM;have L0:(q:Int)<(n:Int):=oM;have gA:=mg.form;go_upto_region 5 with fail;refine Go.wp_region_rel 8 zM zM (λ_ W=>TuI wr BE BO b off q id l r (.slice (some ⟨b,off,none⟩) n ar) ov x y W) (λw w'=>Below w.heap.size w w') (FTu wr BE BO b off q n ar ov x y) (λ_ _ _ _ h g=>h.kept g) ⟨(zR _ _).drew,h3.e.drew,h3.o.drew,c0,c1⟩ ?_ ?_
   ·clear h3 mg Hy dm
    intro i o hi ho c bb W hc hM hA hD K hK;match i,hi,ho with
    |0,_,ho =>
     cases ho;have f3:=a0a (v:= .pointer (some ⟨BO,0,none⟩)) (hA.at_ (k:=3) zM);go_simp;exact hK (.pointer (some ⟨BO,1,none⟩)) W rfl (zR _ _) hM
    |1,_,ho =>
     cases ho;have f20:=a0a (v:= .pointer (some ⟨BO,1,none⟩)) (a0b hD 0 20 zM rfl rfl);have z0:W.cell? ⟨BO,1,none⟩=some (ov):=hM.o.cell 1;go_simp;exact hK (ov) W rfl (zR _ _) hM
    |2,_,ho =>
     cases ho;have f1:=a0a (v:= .pointer (some ⟨BE,0,none⟩)) (hA.at_ (k:=1) zM);go_simp;exact hK (.pointer (some ⟨BE,1,none⟩)) W rfl (zR _ _) hM
    |3,_,ho =>
     cases ho;have f22:=a0a (v:= .pointer (some ⟨BE,1,none⟩)) (a0b hD 2 22 zM rfl rfl);have z0:W.cell? ⟨BE,1,none⟩=some (.slice (some ⟨b,off,none⟩) n ar):=hM.e.cell 1;go_simp;exact hK (.slice (some ⟨b,off,none⟩) n ar) W rfl (zR _ _) hM
    |4,_,ho =>
     cases ho;have f4:=a0a (v:= .int .i64 (q:Nat)) (hA.at_ (k:=4) zM);go_simp;exact hK (.int .i64 (q:Nat)) W rfl (zR _ _) hM
    |5,_,ho =>
     cases ho;have f23:=a0a (v:= .slice (some ⟨b,off,none⟩) n ar) (a0b hD 3 23 zM rfl rfl);have f24:=a0a (v:= .int .i64 (q:Nat)) (a0b hD 4 24 zM rfl rfl);go_simp;exact hK (.pointer (some ⟨b,off+q*2,none⟩)) W rfl (zR _ _) hM
    |6,_,ho =>
     cases ho;have f25:=a0a (v:= .pointer (some ⟨b,off+q*2,none⟩)) (a0b hD 5 25 zM rfl rfl);have z0:W.cell? ⟨b,off+q*2,none⟩=some (.int .i64 x):=hM.x;have z1:W.cell? ⟨b,off+q*2+1,none⟩=some (.int .i64 y):=hM.y;go_simp;exact hK (.agg #[.int .i64 x,.int .i64 y]) W rfl (zR _ _) hM
    |7,_,ho =>
     cases ho;have f26:=a0a (v:= .agg #[.int .i64 x,.int .i64 y]) (a0b hD 6 26 zM rfl rfl);exact ygq
    |i+8,hi,_=>exact absurd hi oM
   ·intro bb W hM hA ah
    obtain⟨L,oF,mh,kL⟩:=(show ∃L,bb.eval (.tmp 27)= .slice (some ⟨L,0,none⟩) 1 1/\wr.heap.size<=L/\Blk W L #[.int .i64 x,.int .i64 y] 26 from ah 7 oM _ _ rfl rfl);have tP:bb.eval (.tmp 21)=ov:=ah 1 oM _ _ rfl rfl;have aC:=hA.frame (rT 20 (rF 8 (rT 3 ([])))) _ rfl zM;clear ah hA;obtain⟨f,hf⟩:=zDt bb;have L3:f 27= .slice (some ⟨L,0,none⟩) 1 1:=by rw[<-hf,<-oF];rfl
    have g21:f 21=ov:=by rw[<-hf,<-tP];rfl
    rw[hf]at aC;clear hf oF tP;subst aC;simp only[rT,rF,a2d,L3,g21,Nat.reduceAdd];clear L3 g21;simp only[zU];have pE:Ev noB S' wr (λb=>S' b\/b=L) W:=(Ev.of_below h3.ev.ok hM.bel).adopt mh kL (a6c fx fy);have h4:=h3.evo pE;have xI:=pE.sl mg;have Hz:SL (λb=>S' b\/b=L) W 26 (.slice (some ⟨L,0,none⟩) 1 1) 1:=SL.blk (.inr rfl) kL (by show 1*2<=2;omega);have aK:=h3.no;clear h3 mg Hy hM pE;go_wp2_with (first
     |(at_builtin;refine a1q (X:=noB) h4.ev.ok qM _ _ 147 qM underlying147 a1z qM xI qM Hz oM ?_;intro v9 S9 w9 aX cG;obtain⟨a9,c9,rfl,-⟩:=aX.form;have h5:=h4.evo cG;obtain⟨-,o1,-,-⟩:=ed4 h5.o;have Px:=h5.o.frozen 1))
    go_roundw
    case rel=>exact⟨q,_,_,oM,by first|rfl|go_num,by rw[show n-q=n-(q+1)+1 from by omega];exact SL.mono aX (λ_ h=>h) (Shp.set h5.no _ _),by have h6:=h5.set 1 (.slice a9 (n-(q+1)+1) c9);simpa using h6⟩
    case measure=>simp[intOf];try omega
theorem b6x (n₀ D:Nat)(sv:Vu)(xs:List Int)(S:BS)(w:Wd)(h:TD S n₀ D sv xs w)(ev:Vu)(m:Nat)(dX:SL S w 206 ev m)(hm:m<=100)(lv:Vu)(n:Nat)(dm:SL S w 26 lv n)(hn:n<=100)(l r:Int)(fl:fits l)(fr:fits r) :
 Calls prog 126 #[ev,lv,.int .i64 l,.int .i64 r,.pointer (some ⟨D,0,none⟩)] w λe w'=>∃S' v,e= .returned v/\(∃m',SL S' w' 206 v m'/\m'<=m+1)/\TD S' n₀ D sv xs w'/\Ev (b1b D) S w S' w':=by
 obtain⟨ea,oG,rfl,xJ⟩:=dX.form;by_cases L4:l=r
 ·subst L4
  go_enter func126,ntmps126;go_wp2_with fail;go_ret;exact⟨S,_,rfl,⟨m,dX,oM⟩,h,Ev.refl h.tw⟩
 ·have Py:(l==r)=false:=by simpa using L4
  obtain⟨la,ar,rfl,eU⟩:=dm.form;have ag:=λb hb=>h.tw.lt (b:=b) hb
  have mF:=h.lt;go_enter func126,ntmps126;go_upto_region 4 with fail;refine a0m (λW1 aH=> ?_);have fB:ST n₀ D sv xs S w S W1:=by
   rw[aH];exact h.st.alloc _
  have k1:Blk W1 w.heap.size (edC ((m:Int)+1) (.slice la n ar) l r) 206:=by
   rw[aH];exact Blk.new _ _ _
  have qH:SL S W1 206 (.slice ea m oG) m:=fB.ev.sl dX;have CZ:SL S W1 26 (.slice la n ar) n:=fB.ev.sl dm;clear aH;have n1:¬S w.heap.size:=λhb=>Nat.lt_irrefl _ (ag _ hb)
  have d1:w.heap.size≠D:=oM;have Pz:w.heap.size<=w.heap.size:=yR _;obtain⟨B,hB⟩:=zE w.heap.size;have FD:w.heap.size<=B:=oM;rw[hB]at k1 n1 d1;rw[hB];clear hB ag mF Pz;have FC:fits ((m:Int)+1):=⟨oM,oM⟩;go_upto_if 25 with(first
   |(go_at_call 73;refine(fB.call 2 oM oM).mono ?_;rintro e W2⟨q,rfl,q0,q1,cH,cf,iH⟩;have k2:=k1.kept cf (λe=>d1 (Option.some.inj e).symm);have oH:=iH.sl qH;have xK:=iH.sl CZ))
  have bu:=cH.ev.size;clear fB cf iH qH CZ k1;by_cases hq:q=1
  ·subst hq
   obtain⟨z0,z1,z2,z3⟩:=ed4 k2;go_upto_region 6 with(first
    |(go_at_call 137;refine(b5q S W2 cH.td.tw _ _ _ _ n xK hn FC fl fr).mono ?_;rintro e W3⟨S3,v3,rfl,xL,sy⟩;obtain⟨a3,c3,rfl,-⟩:=xL.form;have nx:=cH.evo sy;have k3:=sy.blk k2 n1 (λh=>h);have qI:=sy.sl oH;have n3:=sy.not k2.lt n1;obtain⟨z0,z1,z2,z3⟩:=ed4 k3;have f0:=k3.frozen 0;have f1:=k3.frozen 1;have f2:=k3.frozen 2;have f3:=k3.frozen 3))
   refine a0m (λW4 cQ=> ?_);have mi:ST n₀ D sv xs S w S3 W4:=by
    rw[cQ];exact(((nx.own FD n3 d1 0 _).own FD n3 d1 1 _).own FD n3 d1 2 _).own FD n3 d1 3 _
   have k4:Blk W4 B (edC ((m:Int)+1) (.slice a3 n c3) r l) 206:=by
    rw[cQ];simpa using (((k3.set 0 (.int .i64 ((m:Int)+1))).set 1 (.slice a3 n c3)).set 2 (.int .i64 r)).set 3 (.int .i64 l)
   have bO:Shp S3 W3 W4:=by
    rw[cQ];exact(((Shp.set n3 0 _).trans (Shp.set n3 1 _) (λ_ h=>h)).trans (Shp.set n3 2 _) (λ_ h=>h)).trans (Shp.set n3 3 _) (λ_ h=>h)
   have qJ:=qI.mono (λ_ h=>h) bO;have HA:=xL.mono (λ_ h=>h) bO;clear cQ z0 z1 z2 z3 f0 f1 f2 f3 k3 k2 nx cH qI oH xK xL sy bO;obtain⟨z0,z1,z2,z3⟩:=ed4 k4;go_wp2_with (first
    |(at_builtin;refine a1a mi.td.tw qM _ _ 32 qM underlying32 a2g qM qJ qM rfl (b3i FC fr fl HA hn) rfl oM ?_;intro v9 S9 w9 aX cG))
   go_ret;exact⟨S9,_,rfl,⟨m+1,aX,oM⟩,(mi.evo cG).td,(mi.evo cG).ev⟩
  ·have wJ:(q==1)=false:=by simpa using hq
   obtain⟨z0,z1,z2,z3⟩:=ed4 k2;go_wp2_with (first
    |(at_builtin;refine a1a cH.td.tw qM _ _ 32 qM underlying32 a2g qM oH qM rfl (b3i FC fl fr xK hn) rfl oM ?_;intro v9 S9 w9 aX cG))
   go_ret;exact⟨S9,_,rfl,⟨m+1,aX,oM⟩,(cH.evo cG).td,(cH.evo cG).ev⟩
theorem c5r {S:BS}{W:Wd}{c:Array Value}(h:∀u∈c.toList,∃x,u= .int .i64 x/\fits x):TB S W 26 c:=λi u ct h1 h2=>by
 obtain⟨x,rfl,hx⟩:=h u (by rw[<-Array.getElem?_toList]at h1;exact List.mem_of_getElem? h1);rw[show a8e 26=2 from rfl]at h2;rcases Nat.mod_two_eq_zero_or_one i with e|e
 ·rw[e]at h2
  cases h2;exact CT.ok_int hx
 ·rw[e]at h2
  cases h2;exact CT.ok_int hx
theorem c6z (n₀ D:Nat)(sv:Vu)(xs:List Int)(S:BS)(w:Wd)(h:TD S n₀ D sv xs w)(ev:Vu)(m:Nat)(dX:SL S w 206 ev m)(hm:m<=99)(x y a:Int)(fx:fits x)(fy:fits y)(fa:fits a) :
 Calls prog 130 #[ev,.agg #[.int .i64 x,.int .i64 y],.int .i64 a,.pointer (some ⟨D,0,none⟩)] w λe w'=>∃S' v,e= .returned v/\(∃m',SL S' w' 206 v m'/\m'<=m+1)/\TD S' n₀ D sv xs w'/\Ev (b1b D) S w S' w':=by
 have ag:=λb hb=>h.tw.lt (b:=b) hb
 have mF:=h.lt;obtain⟨ea,oG,rfl,xJ⟩:=dX.form;go_enter func130,ntmps130;go_upto_region 1 with fail;refine a0m (λW1 aH=> ?_);have fB:ST n₀ D sv xs S w S W1:=by
  rw[aH];exact h.st.alloc _
 have k1:Blk W1 w.heap.size #[.int .i64 x,.int .i64 y] 26:=by
  rw[aH];exact Blk.new _ _ _
 have qH:SL S W1 206 (.slice ea m oG) m:=fB.ev.sl dX;clear aH;have n1:¬S w.heap.size:=λhb=>Nat.lt_irrefl _ (ag _ hb)
 have d1:w.heap.size≠D:=oM;obtain⟨B,hB⟩:=zE w.heap.size;rw[hB]at k1 n1 d1;rw[hB];clear hB ag mF;go_upto_region 3 with(first
  |(go_at_call 73;refine(fB.call 8 oM oM).mono ?_;rintro e W2⟨q,rfl,q0,q1,cH,cf,iH⟩;have k2:=k1.kept cf (λe=>d1 (Option.some.inj e).symm);have oH:=iH.sl qH;obtain⟨z0,z1,-,-⟩:=pt2 k2))
 refine a0m (λW3 ez=> ?_);obtain⟨S3,nx,xF,qI,n3⟩:∃S3,ST n₀ D sv xs S w S3 W3/\SL S3 W3 26 (.slice (some ⟨W2.heap.size,0,none⟩) 4 4) 4/\SL S3 W3 206 (.slice ea m oG) m/\¬S3 B:=by
  rw[ez];refine⟨λb=>S b\/b=W2.heap.size,cH.allocT (c5r (λu hu=> ?_)),SL.blk (.inr rfl) (Blk.new _ _ _) (by show 4*2<=8;omega),oH.mono (λ_ h=> .inl h) (λb c e hb hc=>⟨c,hc.alloc _,rfl⟩),λh=> ?_⟩
  ·simp only[List.mem_cons,List.not_mem_nil,or_false]at hu
   rcases hu with rfl|rfl|rfl|rfl|rfl|rfl|rfl|rfl <;> exact⟨_,rfl,zF⟩
  ·rcases h with h|h
   ·exact n1 h
   ·have:=k2.lt;omega
 have k3:Blk W3 B #[.int .i64 x,.int .i64 y] 26:=by
  rw[ez];exact k2.alloc _
 obtain⟨lv,aJ⟩:=zE (Value.slice (some ⟨W2.heap.size,0,none⟩) 4 4);rw[aJ]at xF;rw[aJ];clear ez aJ cH oH k2 z0 z1 fB qH k1 cf iH;go_upto_if 53 with(first
  |(go_at_call 73;refine(nx.call 2 oM oM).mono ?_;rintro e W4⟨q2,rfl,r0,r1,mi,mH,xN⟩;have k4:=k3.kept mH (λe=>d1 (Option.some.inj e).symm);have qJ:=xN.sl qI;have L5:=xN.sl xF;obtain⟨z0,z1,-,-⟩:=pt2 k4))
 clear nx qI k3 xF mH xN;by_cases hq:q2=1
 ·subst hq
  go_upto_region 5 with fail;refine a0m (λW5 iq=> ?_);obtain⟨S5,Ft,PA,oI⟩:∃S5,ST n₀ D sv xs S w S5 W5/\SL S5 W5 26 (.slice (some ⟨W4.heap.size,0,none⟩) 5 5) 5/\SL S5 W5 206 (.slice ea m oG) m:=by
   rw[iq];refine⟨λb=>S3 b\/b=W4.heap.size,mi.allocT (c5r (λu hu=> ?_)),SL.blk (.inr rfl) (Blk.new _ _ _) (by show 5*2<=10;omega),qJ.mono (λ_ h=> .inl h) (λb c e hb hc=>⟨c,hc.alloc _,rfl⟩)⟩;simp only[List.mem_cons,List.not_mem_nil,or_false]at hu;rcases hu with rfl|rfl|rfl|rfl|rfl|rfl|rfl|rfl|rfl|rfl <;> exact⟨_,rfl,zF⟩
  clear iq mi qJ L5 k4 z0 z1;go_wp2_with (first
   |(go_at_call 126;refine(b6x n₀ D sv xs S5 _ Ft.td _ m oI oM _ 5 PA oM _ _ jM fa).mono ?_;rintro e W9⟨S9,v9,rfl,⟨m9,aX,Fh⟩,wR,cG⟩))
  go_ret;exact⟨S9,_,rfl,⟨m9,aX,Fh⟩,wR,(Ft.then_ wR cG).ev⟩
 ·have wJ:(q2==1)=false:=by simpa using hq
  go_wp2_with (first
   |(go_at_call 126;refine(b6x n₀ D sv xs S3 _ mi.td _ m qJ oM _ 4 L5 oM _ _ jM fa).mono ?_;rintro e W9⟨S9,v9,rfl,⟨m9,aX,Fh⟩,wR,cG⟩))
  go_ret;exact⟨S9,_,rfl,⟨m9,aX,Fh⟩,wR,(mi.then_ wR cG).ev⟩
theorem SL.int {S:BS}{W:Wd}{b off n cap:Nat}(hT:TW S W)(h:SL S W 3 (.slice (some ⟨b,off,none⟩) n cap) n){k:Nat}(hk:k<n):∃x,W.cell? ⟨b,off+k,none⟩=some (.int .i64 x)/\fits x:=by
 obtain⟨u0,c0,h0⟩:=h.cell hT a7x hk 0 .int rfl;obtain⟨x,rfl,fx⟩:=h0.i rfl;rw[Nat.mul_one,Nat.add_zero]at c0;exact⟨x,c0,fx⟩
theorem b4v {S:BS}{w:Wd}(hT:TW S w){ops:Array Oper}{o:Oper}{a:Act}{K:Act->World->Prop}{Q:Exit->Act->World->Prop}{E:Prop}(dI:o.guard=none)(sO xO:Operand)(t:Td)(ho:o.op= .call { callee:= .builtin .append,args:= #[sO,xO],argTypes:= #[t,t] })
 {e:Td} {s:Nat} (ht:prog.underlying t=some (.slice e)) (he:ET e s) {sv xv:Vu} {n m:Nat} (bH:a.eval sO=sv) (hv:SL S w e sv n) (dH:a.eval xO=xv) (hx:SL S w e xv m) (hl:n+m<=1000000)
 (h:∀v' S' w',SL S' w' e v' (n+m)->Ev noB S w S' w'->K (a.put o.dst v') w'):if Region.wanted o (yielded ops a.tmps)=true then Oper.wp prog o a w K Q else E:=by
 rw[if_pos (by simp[Region.wanted,dI])];exact b1a (X:=noB) hT sO xO t ho ht he bH hv dH hx hl h
theorem b6y {S:BS}{w:Wd}{t e:Td}{s:Nat}(ht:prog.underlying t=some (.slice e))(he:ET e s){v:Vu}{n k:Nat}(hv:SL S w e v n)(hk:k<=n) :
 ∃v',(Instr.sliceAt t v (some (.int .i64 (k:Nat))) none none).run prog w= .ok v' w/\SL S w e v' (n-k):=by
 obtain⟨i,z,hi,hz,bu,-⟩:=he.info;have ew:=hv;obtain⟨a,cap,rfl,hn,h⟩:=hv;have kt:(0:Int)<=(k:Int)/\(k:Int)<=(n:Int):=oM;have eD:¬n<k:=oM;have hr:(Instr.sliceAt t (.slice a n cap) (some (.int .i64 (k:Nat))) none none).run prog w= .ok (.slice (if cap=k then a else a.map (·.add (k*s))) (n-k) (cap-k)) w:=by
  exact yie
 refine⟨_,hr,?_⟩;rcases h with⟨rfl,rfl⟩|⟨b,o,c,rfl,hb,hc,hl⟩
 ·have:k=0:=oM
  subst this;have:n=0:=oM;subst this;exact ew
 ·by_cases aB:cap=k
  ·rw[if_pos aB]
   exact ew.drop he.size hk (.inr ⟨aB.symm,rfl⟩)
  ·rw[if_neg aB]
   have hx:(some (⟨b,o*a8e e,none⟩:Addr)).map (·.add (k*s))=some ⟨b,o*a8e e+k*s,none⟩:=by simp[Addr.add]
   rw[hx];exact ew.drop he.size hk (.inl rfl)
theorem b4w {S:BS}{w:Wd}{t e:Td}{s:Nat}(ht:prog.underlying t=some (.slice e))(he:ET e s){v:Vu}{n k:Nat}(hv:SL S w e v n)(hk:k<=n) :
 ∃v',(Instr.sliceAt t v none (some (.int .i64 (k:Nat))) none).run prog w= .ok v' w/\SL S w e v' k:=by
 obtain⟨i,z,hi,hz,bu,-⟩:=he.info;have ew:=hv;obtain⟨a,cap,rfl,hn,h⟩:=hv;have kt:(0:Int)<=(k:Int)/\(k:Int)<=(cap:Int):=oM;have eD:¬cap<k:=oM;have hr:(Instr.sliceAt t (.slice a n cap) none (some (.int .i64 (k:Nat))) none).run prog w= .ok (.slice (if cap=0 then a else a.map (·.add (0*s))) (k-0) (cap-0)) w:=by
  exact yie
 refine⟨_,hr,?_⟩;have hx:(if cap=0 then a else a.map (·.add (0*s)))=a:=by
  split
  ·rfl
  ·cases a with
   |none=>rfl
   |some ad=>simp[Addr.add]
 rw[hx,Nat.sub_zero,Nat.sub_zero];exact ew.take hk
theorem b1c {S:BS}{w:Wd}{o:Oper}{a:Act}{K:Act->World->Prop}{Q:Exit->Act->World->Prop}(t:Td)(xO lO:Operand)(ho:o.op= .slice t xO (some lO) none none){e:Td}{s:Nat}(ht:prog.underlying t=some (.slice e))(he:ET e s){v:Vu}{n k:Nat}
 (hx:a.eval xO=v) (jr:a.eval lO= .int .i64 (k:Nat)) (hv:SL S w e v n) (hk:k<=n) (h:∀v',SL S w e v' (n-k)->K (a.put o.dst v') w):Oper.wp prog o a w K Q:=by
 obtain⟨v',hr,h2⟩:=b6y ht he hv hk;unfold Oper.wp execOp;simp only[ho,Option.map_some,Option.map_none,hx,jr,Sem.run_bind,hr];simp only[Result.andThen_ok,Sem.run_pure];exact h v' h2
theorem b6z {S:BS}{w:Wd}{o:Oper}{a:Act}{K:Act->World->Prop}{Q:Exit->Act->World->Prop}(t:Td)(xO hO:Operand)(ho:o.op= .slice t xO none (some hO) none){e:Td}{s:Nat}(ht:prog.underlying t=some (.slice e))(he:ET e s){v:Vu}{n k:Nat}
 (hx:a.eval xO=v) (tQ:a.eval hO= .int .i64 (k:Nat)) (hv:SL S w e v n) (hk:k<=n) (h:∀v',SL S w e v' k->K (a.put o.dst v') w):Oper.wp prog o a w K Q:=by
 obtain⟨v',hr,h2⟩:=b4w ht he hv hk;unfold Oper.wp execOp;simp only[ho,Option.map_some,Option.map_none,hx,tQ,Sem.run_bind,hr];simp only[Result.andThen_ok,Sem.run_pure];exact h v' h2
theorem a5q {S:BS}{w:Wd}{ops:Array Oper}{rest:List Oper}{o:Oper}{a:Act}{Q:Exit->Act->World->Prop}(dI:o.guard=none)(t:Td)(xO hO:Operand)(ho:o.op= .slice t xO none (some hO) none){e:Td}{s:Nat}(ht:prog.underlying t=some (.slice e))(he:ET e s){v:Vu}{n k:Nat}
 (hx:a.eval xO=v) (tQ:a.eval hO= .int .i64 (k:Nat)) (hv:SL S w e v n) (hk:k<=n) (h:∀v',SL S w e v' k->wpList prog ops Q rest (a.put o.dst v') w):wpList prog ops Q (o::rest) a w :=
 wpList_plain dI λ_ hK=>b6z t xO hO ho ht he hx tQ hv hk λv' h2=>hK _ _ (h v' h2)
def FPu (lv ov:Vu)(n q:Nat)(x:Int)(i:Nat)(v:Vu)(S:BS)(w:Wd):Prop :=
 match i with
 |0=>v=ov
 |1=>v= .int .i64 x
 |2=>SL S w 3 v 1
 |3=>SL S w 3 v (q+1)
 |4=>v=lv
 |5=>v= .int .i64 (q:Nat)
 |6=>SL S w 3 v (n-q)
 |_=>False
theorem FPu.kept {lv ov:Vu}{n q:Nat}{x:Int}{i:Nat}{v:Vu}{S S':BS}{w w':Wd}(h:FPu lv ov n q x i v S w)(hg:Ev noB S w S' w'):FPu lv ov n q x i v S' w':=by
 unfold FPu at *;split at h
 all_goals first|exact h|exact hg.sl h
theorem b7a (S:BS)(w:Wd)(hT:TW S w)(lv:Vu)(n:Nat)(dm:SL S w 3 lv n)(hn:n<=1000)(x:Int)(fx:fits x) :
 Calls prog 164 #[lv,.int .i64 x] w λe w'=>∃S' v,e= .returned v/\(∃n',SL S' w' 3 v n'/\n'<=n+1)/\Ev noB S w S' w':=by
 obtain⟨a,cap,aJ,nW⟩:=dm.form;by_cases fE:n=0
 ·subst fE
  subst aJ;go_enter func164,ntmps164;go_wp2_with fail;refine wp_loop_rounds 1 ?_;rw[rounds_succ];obtain⟨wr,mf⟩:∃W,W=w:=⟨_,rfl⟩;have nL:Ev noB S w S wr:=by rw[mf];exact Ev.refl hT
  rw[<-mf];clear mf;go_upto_region 6 with fail;have hA1:=Ev.alloc (X:=noB) nL.ok (c5q (S:=S) (W:=wr) (e:=3));have A3:SL (λb=>S b\/b=wr.heap.size) (wr.alloc (.cells #[] 3)) 3 (.slice (some ⟨wr.heap.size,0,none⟩) 0 0) 0:=SL.blk (.inr rfl) (Blk.new _ _ _) vM;have pT:=(nL.trans hA1).sl dm;go_upto_region 7 with(first
   |(refine a5q qM 51 _ _ qM underlying51 a7x qM qM pT (yR 0) ?_;intro NP h38)
   |(at_builtin;refine a1q (X:=noB) hA1.ok qM _ _ 51 qM underlying51 a7x qM A3 qM h38 oM ?_;intro v6 S6 W6 jy jP))
  have wC:=(nL.trans hA1).trans jP;have wD:=wC.sl dm;rw[Nat.zero_add]at jy;refine Go.wp_region_reln 7 zM zM (λ_ g W=>Ev noB S6 W6 g W) (λg W g' W'=>Ev noB g W g' W') (FPu (Value.slice a 0 cap) v6 0 0 x) (λ_ _ _ _ _ _ h g=>h.kept g) S6 (Ev.drew wC.ok) ?_ ?_
  ·clear pT A3 hA1 jP nL
   intro i o hi ho c bb g W hc hM hA hD K hK;match i,hi,ho with
   |0,_,ho =>
    exact yhv
   |1,_,ho =>
    exact ygk
   |2,_,ho =>
    exact ydl
   |3,_,ho =>
    exact ydz
   |4,_,ho =>
    cases ho;have f0:bb.tmps[0]?.getD undef=(Value.slice a 0 cap):=a0a (v:=(Value.slice a 0 cap)) (hA.at_ (k:=0) zM);go_simp;exact hK (Value.slice a 0 cap) g W rfl (Ev.refl hM.ok) hM
   |5,_,ho =>
    cases ho;have f5:bb.tmps[5]?.getD undef= .int .i64 ((0:Nat):Int):=a0a (v:= .int .i64 ((0:Nat):Int)) (hA.at_ (k:=5) zM);go_simp;exact hK (.int .i64 ((0:Nat):Int)) g W rfl (Ev.refl hM.ok) hM
   |6,_,ho =>
    cases ho;have f44:bb.eval (.tmp 44)=(Value.slice a 0 cap):=a0f hD 4 44 zM rfl rfl;have f45:bb.eval (.tmp 45)= .int .i64 ((0:Nat):Int):=a0f hD 5 45 zM rfl rfl;rw[if_pos (by simp[Region.wanted])];exact b1c 51 _ _ rfl underlying51 a7x f44 f45 (hM.sl wD) (yR 0) (λv' h1=>hK v' g W h1 (Ev.refl hM.ok) hM)
   |i+7,hi,_=>exact absurd hi oM
  ·intro bb g W hM hA ah
   have h3:SL g W 3 (bb.eval (.tmp 43)) (0+1):=ah 3 oM _ _ rfl rfl;have h6:SL g W 3 (bb.eval (.tmp 46)) (0-0):=ah 6 oM _ _ rfl rfl;obtain⟨va,mm⟩:=zE (bb.eval (.tmp 43));obtain⟨vb,pU⟩:=zE (bb.eval (.tmp 46));rw[mm]at h3;rw[pU]at h6;have aC:=hA.frame (rT 40 (rF 7 (rT 1 ([])))) _ rfl zM;clear ah hA;obtain⟨f,hf⟩:=zDt bb;have zO:f 43=va:=by rw[<-hf,<-mm];rfl
   have A4:f 46=vb:=by rw[<-hf,<-pU];rfl
   rw[hf]at aC;clear hf mm pU;subst aC;simp only[rT,rF,a2d,zO,A4,Nat.reduceAdd];clear zO A4;simp only[zU];go_wp2_with (first
    |(at_builtin;refine a1q (X:=noB) hM.ok qM _ _ 51 qM underlying51 a7x qM h3 qM h6 oM ?_;intro v9 S9 w9 aX cG))
   go_ret;exact⟨S9,_,rfl,⟨0+1+(0-0),aX,oM⟩,(wC.trans hM).trans cG⟩
 ·obtain⟨b,off,aI,bL,-,-⟩:=dm.some_ oM
  rw[aJ]at bL;simp only[Value.slice.injEq,true_and]at bL;obtain⟨rfl,rfl⟩:=bL;subst aJ;go_enter func164,ntmps164;go_wp2_with fail;go_loopw [5] (λkk wr=>∃t:Nat,t<=n/\kk= .int .i64 (t:Nat)/\Below w.heap.size w wr) (λkk _=>(intOf kk).toNat)
  case atStart=>exact⟨n,yR _,rfl,zR _ _⟩
  case round =>
   obtain⟨t,ht,rfl,hB⟩:=hrel;have nL:=Ev.of_below (X:=noB) hT hB;have wU:=nL.sl dm;have C0:t=0\/(0<t/\∃y,wr.cell? ⟨b,off+(t-1),none⟩=some (.int .i64 y)):=by
    by_cases h:t=0
    ·exact .inl h
    ·obtain⟨y,c0,fy⟩:=SL.int nL.ok wU (k:=t-1) oM
     exact .inr ⟨oM,y,c0⟩
   have bP:t<n->∃z,wr.cell? ⟨b,off+t,none⟩=some (.int .i64 z):=λh=>by
    obtain⟨y,c0,fy⟩:=SL.int nL.ok wU h;exact⟨y,c0⟩
   rcases C0 with h0|⟨h0,y,cy⟩
   ·have dR:¬(0:Int)<(t:Int):=oM
    clear h0;by_cases HG:t<n
    ·obtain⟨z,cz⟩:=bP HG
     have C1:(t:Int)<(n:Int):=oM;by_cases ic:z=x
     ·exact yjr
     ·have uT:(z==x)=false:=by simpa using ic
      go_upto_region 6 with fail;clear bP cz;exact yab
    ·exfalso
     omega
   ·have dR:(0:Int)<(t:Int):=oM
    have T2:(t:Int)-1<(n:Int):=oM;have T4:0<=(t:Int)-1:=oM;by_cases L6:x<=y
    ·go_wp2_with fail
     go_roundw
     case rel=>exact⟨t-1,oM,by first|rfl|(congr 1;omega),hB⟩
     case measure=>simp[intOf];try omega
    ·by_cases HG:t<n
     ·obtain⟨z,cz⟩:=bP HG
      have C1:(t:Int)<(n:Int):=oM;by_cases ic:z=x
      ·exact yjr
      ·have uT:(z==x)=false:=by simpa using ic
       go_upto_region 6 with fail;clear bP cz cy;exact yab
     ·have C1:¬(t:Int)<(n:Int):=oM
      go_upto_region 6 with fail;clear bP cy;exact yab
theorem c5s {S:BS}{W:Wd}{id:Int}(hi:fits id):TB S W 140 #[.int .i64 id,.string ⟨#[]⟩,.string ⟨#[]⟩,.int .i64 0,.int .i64 0]:=c2x rfl rfl λi u ct h1 h2=>by
 match i,h1,h2 with
 |0,h1,h2=>cases h1;cases h2;exact CT.ok_int hi
 |1,h1,h2=>cases h1;cases h2;exact CT.ok_str jM
 |2,h1,h2=>cases h1;cases h2;exact CT.ok_str jM
 |3,h1,h2=>cases h1;cases h2;exact CT.ok_int ⟨jM,jM⟩
 |4,h1,h2=>cases h1;cases h2;exact CT.ok_int ⟨jM,jM⟩
 |i+5,h1,_=>simp at h1
theorem SL.edge {S:BS}{W:Wd}{b off n cap:Nat}(hT:TW S W)(h:SL S W 206 (.slice (some ⟨b,off,none⟩) n cap) n){k:Nat}(hk:k<n):∃id l r lv m,W.cell? ⟨b,off+k*4,none⟩=some (.int .i64 id)/\W.cell? ⟨b,off+k*4+1,none⟩=some lv/\W.cell? ⟨b,off+k*4+2,none⟩=some (.int .i64 l)/\W.cell? ⟨b,off+k*4+3,none⟩=some (.int .i64 r)/\fits id/\fits l/\fits r/\SL S W 26 lv m/\m<=100:=by
 obtain⟨u0,c0,h0⟩:=h.cell hT a2g hk 0 .int rfl;obtain⟨u1,c1,h1⟩:=h.cell hT a2g hk 1 (.sl 26) rfl;obtain⟨u2,c2,h2⟩:=h.cell hT a2g hk 2 .int rfl;obtain⟨u3,c3,h3⟩:=h.cell hT a2g hk 3 .int rfl;exact ygl
theorem d0l (S:BS)(w:Wd)(hT:TW S w)(ev:Vu)(m:Nat)(dX:SL S w 206 ev m)(hm:m<=100) :
 Calls prog 131 #[ev] w λe w'=>∃S' v,e= .returned v/\(∃n',SL S' w' 140 v n'/\n'<=200)/\Ev noB S w S' w':=by
 obtain⟨ea,oG,rfl,xJ⟩:=dX.form;go_enter func131,ntmps131;go_wp2_with fail;go_loopw [3,4] (λv kk wr=>∃(k n:Nat) (S':BS),k<=m/\kk= .int .i64 (k:Nat)/\n<=2*k/\SL S' wr 3 v n/\Ev noB S w S' wr) (λ_ kk _=>m-(intOf kk).toNat)
 case atStart=>exact⟨0,0,S,Nat.zero_le _,rfl,oM,SL.nil _ _ _,Ev.refl hT⟩
 case round =>
  obtain⟨k,n,S1,hk,rfl,hn,bH,bC⟩:=hrel;by_cases ag:k<m
  ·have aA:(k:Int)<(m:Int):=oM
   obtain⟨b,off,aI,bL,-,-⟩:=dX.some_ oM;simp only[Value.slice.injEq,true_and]at bL;obtain⟨rfl,rfl⟩:=bL;obtain⟨id,l,r,lv,q,c0,c1,c2,c3,f0,f1,f2,aJ,hq⟩:=SL.edge bC.ok (bC.sl dX) ag;have du:=aJ;clear aJ c0 c1;by_cases pA:l=0
   ·have sj:(l != 0)=false:=by simp[pA]
    go_upto_region 7 with fail;clear c2;by_cases pF:r=0
    ·have Cs:(r != 0)=false:=by simp[pF]
     go_wp2_with fail;go_roundw
     case rel=>exact⟨k+1,n,S1,oM,by go_num,oM,bH,bC⟩
     case measure=>simp[intOf];omega
    ·have Cs:(r != 0)=true:=by simp[pF]
     go_wp2_with (first
      |(go_at_call 164;refine(b7a S1 _ bC.ok _ n bH oM r f2).mono ?_;rintro e W2⟨S2,v2,rfl,⟨n2,cH,iP⟩,iH⟩))
     go_roundw
     case rel=>exact⟨k+1,n2,S2,oM,by go_num,oM,cH,bC.trans iH⟩
     case measure=>simp[intOf];omega
   ·have sj:(l != 0)=true:=by simp[pA]
    go_upto_region 7 with(first
     |(go_at_call 164;refine(b7a S1 _ bC.ok _ n bH oM l f1).mono ?_;rintro e W2⟨S2,v2,rfl,⟨n2,cH,iP⟩,iH⟩))
    have gn:=bC.trans iH;clear c2 c3 f2;obtain⟨HN,l',r',HP,q',-,-,-,c3,-,-,f2,-,-⟩:=SL.edge gn.ok (gn.sl dX) ag;by_cases pF:r'=0
    ·have Cs:(r' != 0)=false:=by simp[pF]
     go_wp2_with fail;go_roundw
     case rel=>exact⟨k+1,n2,S2,oM,by go_num,oM,cH,gn⟩
     case measure=>simp[intOf];omega
    ·have Cs:(r' != 0)=true:=by simp[pF]
     go_wp2_with (first
      |(go_at_call 164;refine(b7a S2 _ gn.ok _ n2 cH oM r' f2).mono ?_;rintro e W3⟨S3,v3,rfl,⟨n3,nx,Fg⟩,sy⟩))
     go_roundw
     case rel=>exact⟨k+1,n3,S3,oM,by go_num,oM,nx,gn.trans sy⟩
     case measure=>simp[intOf];omega
  ·obtain rfl:k=m:=oM
   have aY:¬(k:Int)<(k:Int):=oM;obtain⟨ia,HQ,rfl,T5⟩:=bH.form;go_wp2_with fail;go_loopw [5,6] (λv kk wx=>∃(t:Nat) (S':BS),t<=n/\kk= .int .i64 (t:Nat)/\SL S' wx 140 v t/\Ev noB S w S' wx/\SL S' wx 3 (.slice ia n HQ) n) (λ_ kk _=>n-(intOf kk).toNat)
   case atStart=>exact⟨0,S1,Nat.zero_le _,rfl,SL.nil _ _ _,bC,bH⟩
   case round =>
    clear bH bC;obtain⟨t,S2,ht,rfl,gA,bC,bH⟩:=hrel;by_cases eL:t<n
    ·have aA:(t:Int)<(n:Int):=oM
     obtain⟨b2,C2,ke,iJ,-,-⟩:=bH.some_ oM;simp only[Value.slice.injEq,true_and]at iJ;obtain⟨rfl,rfl⟩:=iJ;obtain⟨y,cy,fy⟩:=SL.int bC.ok bH eL;go_wp2_with (first
      |(at_builtin;refine a1a bC.ok qM _ _ 33 qM underlying33 a1v qM gA qM rfl (c5s fy) rfl oM ?_;intro v9 S9 w9 aX cG))
     go_roundw
     case rel=>exact⟨t+1,S9,oM,by go_num,aX,bC.trans cG,cG.sl bH⟩
     case measure=>simp[intOf];omega
    ·obtain rfl:t=n:=oM
     have HT:¬(t:Int)<(t:Int):=oM;go_wp2_with fail;go_ret;exact⟨S2,_,rfl,⟨t,gA,oM⟩,bC⟩
theorem d4r (n m:Int)(w:Wd)(hn:fits n)(h1:1<=m)(h2:m<=1000000):Calls prog 77 #[.int .i64 n,.int .i64 m] w λe w'=>∃r,e= .returned (.int .i64 r)/\0<=r/\r<m/\w=w':=by
 refine(a5x n m w hn h1 oM).mono ?_;rintro e w'⟨rfl,rfl⟩;exact⟨_,rfl,Int.emod_nonneg _ oM,Int.emod_lt_of_pos _ oM,rfl⟩
theorem d4s (lv:Vu)(ls:List Int)(i j:Nat)(w:Wd)(hI:Ints w.heap.size w lv ls)(hl:b6w ls.length)(hi:i<=4)(hj:j<=4) :
 Calls prog 128 #[lv,.int .i64 i,.int .i64 j] w λe w'=>(∃x y,e= .returned (.agg #[.int .i64 x,.int .i64 y])/\fits x/\fits y)/\Below w.heap.size w w':=by
 obtain⟨q,hq⟩:∃q:Nat,4*j+i=q:=⟨_,rfl⟩;have w1:IntKind.i64.wrap (4*(j:Int))=4*(j:Int):=a0j oM oM;have w2:IntKind.i64.wrap (4*(j:Int)+(i:Int))=q:=by rw[a0j oM oM];omega
 have w3:IntKind.i64.wrap (2*(q:Int))=2*(q:Int):=a0j oM oM;have w4:IntKind.i64.wrap (2*(q:Int)+1)=2*(q:Int)+1:=a0j oM oM;have e2:4*(j:Int)+(i:Int)=q:=oM;obtain⟨a,cap,rfl,hc⟩:=hI;by_cases ag:2*q+1<ls.length
 ·have aA:2*(q:Int)+1<(ls.length:Int):=oM
  have PB:2*(q:Int)<(ls.length:Int):=oM;obtain⟨b,off,rfl,hb,f0,c0⟩:=hc (2*q) oM;obtain⟨b',fh,bL,-,f1,c1⟩:=hc (2*q+1) ag;simp only[Option.some.injEq,Addr.mk.injEq,and_true]at bL;obtain⟨rfl,rfl⟩:=bL;obtain⟨x,hx⟩:=zE (ls[2*q]);obtain⟨y,hy⟩:=zE (ls[2*q+1]);rw[hx]at f0 c0;rw[hy]at f1 c1;clear hc hx hy hl;replace hq:=Lib.hid hq;go_enter func128,ntmps128;go_wp2_with (first|(go_at_call 77;refine(d4r _ 21 _ (by first|exact f0|exact f1) oM oM).mono ?_;rintro e w'⟨r,rfl,r0,r1,rfl⟩)|fail);exact yhx
 ·have iF:¬2*(q:Int)+1<(ls.length:Int):=oM
  clear hc hl;replace hq:=Lib.hid hq;go_enter func128,ntmps128;go_wp2_with fail;exact yhx
theorem d4t (a0 a1 a2 a3 a4 a5 cw ch i j:Int)(w:Wd)(f0:fits a0)(f1:fits a1)(f2:fits a2)(f3:fits a3)(f4:fits a4)(f5:fits a5)(hw:cw<=3)(hh:ch<=2) :
 Calls prog 129 #[.agg #[.int .i64 a0,.int .i64 a1,.int .i64 a2,.int .i64 a3,.int .i64 a4,.int .i64 a5],.int .i64 cw,.int .i64 ch,.int .i64 i,.int .i64 j] w λe w'=>(∃x,e= .returned (.int .i64 x)/\fits x)/\Below w.heap.size w w':=by
 by_cases h1:i<0
 ·exact yer
 ·by_cases h2:j<0
  ·exact yer
  ·by_cases h3:cw<=i
   ·exact yer
   ·by_cases h4:ch<=j
    ·exact yer
    ·rcases(show i=0\/i=1\/i=2 from oM)with rfl|rfl|rfl
     all_goals
      rcases(show j=0\/j=1 from oM)with rfl|rfl
      all_goals
       go_enter func129,ntmps129;go_wp2_with fail;go_ret;exact⟨⟨_,rfl,zF⟩,zC⟩
end
section
variable{a b c d:Int}
def c5t (a b:Int):Int:=(a-b).sign
theorem b0d (h:a<b):c5t a b = -1:=by unfold c5t;rw[Int.sign_eq_neg_one_of_neg oM]
theorem b3j (a:Int):c5t a a=0:=by unfold c5t;rw[Int.sub_self];rfl
theorem b0e (h:b<a):c5t a b=1:=by unfold c5t;rw[Int.sign_eq_one_of_pos oM]
def d3m (h l h' l':Int):Int:=if c5t h h'=0 then c5t l l' else c5t h h'
theorem c7a (p q:Nat):d3m (p / 18446744073709551616:Nat) (p % 18446744073709551616:Nat) (q / 18446744073709551616:Nat) (q % 18446744073709551616:Nat)=c5t p q:=by
 unfold d3m;rcases Nat.lt_trichotomy (p / 18446744073709551616) (q / 18446744073709551616)with h|h|h
 ·rw[b0d oM,if_neg jM,b0d oM]
 ·rw[h,b3j,if_pos rfl]
  rcases Nat.lt_trichotomy (p % 18446744073709551616) (q % 18446744073709551616)with h2|h2|h2
  ·rw[b0d oM,b0d oM]
  ·have:p=q:=oM
   rw[this,b3j,b3j]
  ·rw[b0e oM,b0e oM]
 ·rw[b0e oM,if_neg jM,b0e oM]
def c7b (a b c d:Int):Int:=(a*b-c*d).sign
theorem b3k (n:Int):(n<0/\n.sign = -1)\/(n=0/\n.sign=0)\/(0<n/\n.sign=1):=by
 rcases Int.lt_trichotomy n 0 with h|h|h
 ·exact .inl ⟨h,Int.sign_eq_neg_one_of_neg h⟩
 ·exact .inr (.inl ⟨h,by rw[h];rfl⟩)
 ·exact .inr (.inr ⟨h,Int.sign_eq_one_of_pos h⟩)
theorem c7c (n:Int):n.sign = -1\/n.sign=0\/n.sign=1:=by
 rcases b3k n with h|h|h <;> simp[h.2]
theorem d4u (h:a.sign*b.sign≠c.sign*d.sign):(a.sign*b.sign-c.sign*d.sign).sign=c7b a b c d:=by
 unfold c7b;rw[<-Int.sign_mul,<-Int.sign_mul]at *;generalize a*b=x at *;generalize c*d=y at *;rcases b3k x with⟨h1,e1⟩|⟨h1,e1⟩|⟨h1,e1⟩ <;> rcases b3k y with⟨h2,e2⟩|⟨h2,e2⟩|⟨h2,e2⟩ <;> rw[e1,e2]at h ⊢ <;>
  first
  |exact absurd rfl h
  |(rw[Int.sign_eq_neg_one_of_neg (a:=x-y) oM];rfl)
  |(rw[Int.sign_eq_one_of_pos (a:=x-y) oM];rfl)
theorem d4v (h:a.sign*b.sign=c.sign*d.sign):a.sign*b.sign*c5t ((a.natAbs*b.natAbs:Nat):Int) ((c.natAbs*d.natAbs:Nat):Int)=c7b a b c d:=by
 unfold c7b c5t;rw[<-Int.natAbs_mul,<-Int.natAbs_mul];rw[<-Int.sign_mul,<-Int.sign_mul]at h;rw[<-Int.sign_mul];generalize a*b=x at *;generalize c*d=y at *;rcases b3k x with⟨h1,e1⟩|⟨h1,e1⟩|⟨h1,e1⟩ <;> rcases b3k y with⟨h2,e2⟩|⟨h2,e2⟩|⟨h2,e2⟩ <;> rw[e1,e2]at h <;> try omega
 ·rw[e1,show((x.natAbs:Int)) = -x from by omega,show((y.natAbs:Int)) = -y from by omega,show -x - -y = -(x-y)from by omega,Int.sign_neg]
  omega
 ·rw[e1,h1,h2];rfl
 ·rw[e1,show((x.natAbs:Int))=x from by omega,show((y.natAbs:Int))=y from by omega,Int.one_mul]
/-! ### roots -/
/-! ### greatest common divisors -/
end
section
open Go
theorem a6v (x:Nat)(h:x<18446744073709551616):IntKind.u64.wrap (x:Int)=(x:Int):=IntWalk.u64_in _ oM
theorem b1w (a:Nat)(ha:a<18446744073709551616):bits .and .u64 (a:Int) 4294967295=((a % 4294967296:Nat):Int):=by
 have h:=bits_and_u64_nat a 4294967295 ha jM;have e:a &&& 4294967295=a % 4294967296:=Nat.and_two_pow_sub_one_eq_mod a 32;rw[e]at h;exact h
theorem d4w (a b:Nat)(ha:a<18446744073709551616)(hb:b<18446744073709551616) :
 IntKind.u64.wrap (IntKind.u64.wrap ((a:Int) / 4294967296*bits .and .u64 (b:Int) 4294967295)+IntKind.u64.wrap (bits .and .u64 (a:Int) 4294967295*bits .and .u64 (b:Int) 4294967295) / 4294967296) =
  (((a / 4294967296)*(b % 4294967296)+(a % 4294967296)*(b % 4294967296) / 4294967296:Nat):Int):=by
 obtain⟨h1,h2,-,-⟩:=Lib.mul64_hi a b ha hb;have h3:=Lib.half_mul_le (a:=a / 4294967296) (b:=b % 4294967296) oM oM;rw[b1w a ha,b1w b hb,show((a:Int) / 4294967296)=((a / 4294967296:Nat):Int)from rfl,<-Int.natCast_mul,<-Int.natCast_mul,a6v _ oM,a6v _ h1];rw[show((((a % 4294967296)*(b % 4294967296):Nat):Int) / 4294967296)=(((a % 4294967296)*(b % 4294967296) / 4294967296:Nat):Int)from rfl,<-Int.natCast_add,a6v _ h2]
theorem d8i (a b:Nat)(ha:a<18446744073709551616)(hb:b<18446744073709551616)(T:Int)
 (hT:T=(((a / 4294967296)*(b % 4294967296)+(a % 4294967296)*(b % 4294967296) / 4294967296:Nat):Int)) :
 IntKind.u64.wrap (IntKind.u64.wrap (IntKind.u64.wrap ((a:Int) / 4294967296*((b:Int) / 4294967296))+T / 4294967296) +
  IntKind.u64.wrap (bits .and .u64 T 4294967295+IntKind.u64.wrap (bits .and .u64 (a:Int) 4294967295*((b:Int) / 4294967296))) / 4294967296)=((a*b / 18446744073709551616:Nat):Int):=by
 subst hT;obtain⟨h1,h2,h3,h4⟩:=Lib.mul64_hi a b ha hb;have h5:=Lib.half_mul_le (a:=a / 4294967296) (b:=b / 4294967296) oM oM;have h6:=Lib.half_mul_le (a:=a % 4294967296) (b:=b / 4294967296) oM oM;have hq:a*b / 18446744073709551616<18446744073709551616:=by
  have:a*b<18446744073709551616*18446744073709551616:=Nat.mul_lt_mul'' ha hb;exact Nat.div_lt_of_lt_mul this
 rw[b1w _ h2,b1w a ha,show((a:Int) / 4294967296)=((a / 4294967296:Nat):Int)from rfl,show((b:Int) / 4294967296)=((b / 4294967296:Nat):Int)from rfl,
  <-Int.natCast_mul,<-Int.natCast_mul,a6v _ oM,a6v _ oM,<-Int.natCast_add,a6v _ oM]
 generalize (a / 4294967296)*(b % 4294967296)+(a % 4294967296)*(b % 4294967296) / 4294967296=t at *;rw[show(((t:Nat):Int) / 4294967296)=((t / 4294967296:Nat):Int)from rfl,<-Int.natCast_add,a6v _ oM];rw[show((((t % 4294967296+a % 4294967296*(b / 4294967296):Nat)):Int) / 4294967296)=(((t % 4294967296+a % 4294967296*(b / 4294967296)) / 4294967296:Nat):Int)from rfl,<-Int.natCast_add,h4,a6v _ hq]
theorem d8j (a b:Nat):IntKind.u64.wrap ((a:Int)*(b:Int))=((a*b % 18446744073709551616:Nat):Int):=by
 rw[IntKind.wrap_u64,<-Int.natCast_mul];rfl
def hiN (a b:Nat):Int:=((a*b / 18446744073709551616:Nat):Int)
def loN (a b:Nat):Int:=((a*b % 18446744073709551616:Nat):Int)
end
section
open Go.RowKit Go.Shelf
variable{c:Array Value}{S:BS}{ad ax ay bd bx by_ d l px py r x y:Int}{B3 B4 B5 BT b cap i k m n off:Nat}{t:Td}{v:Vu}{W W' w w' w1 wr:Wd}
theorem b9x (n:Int)(w:Wd)(h0 : -9223372036854775808<=n)(h1:n<=9223372036854775807):
 Calls prog 219 #[.int .i64 n] w λe w'=>e= .returned (.int .u64 n.natAbs)/\w=w':=by
 by_cases h:n<0
 ·go_enter func219,ntmps219
  go_wp2
  go_ret;exact⟨a6l (by rw[IntKind.wrap_u64,IntKind.wrap_u64];omega),rfl⟩
 ·go_enter func219,ntmps219
  go_wp2
  go_ret;exact⟨a6l oM,rfl⟩
theorem b7b (n:Int)(w:Wd):
 Calls prog 217 #[.int .i64 n] w λe w'=>e= .returned (.int .i64 n.sign)/\w=w':=by
 rcases Int.lt_trichotomy n 0 with h|h|h
 ·have h1:¬(0<n):=oM
  go_enter func217,ntmps217;go_wp2
  go_ret;exact⟨a6l (Int.sign_eq_neg_one_of_neg h).symm,rfl⟩
 ·subst h
  go_enter func217,ntmps217;go_wp2
  go_ret;exact⟨rfl,rfl⟩
 ·have h1:¬(n<0):=oM
  go_enter func217,ntmps217;go_wp2
  go_ret;exact⟨a6l (Int.sign_eq_one_of_pos h).symm,rfl⟩
theorem b1d (a b:Nat)(w:Wd)(ha:a<18446744073709551616)(hb:b<18446744073709551616):
 Zc prog 218 #[.int .u64 a,.int .u64 b] w (.agg #[.int .u64 (hiN a b),.int .u64 (loN a b)]):=by
 have hh:=d8i a b ha hb _ (d4w a b ha hb);rw[Int.add_comm (bits .and .u64 _ _)]at hh;have H:=Lib.hid hh;clear hh;go_enter func218,ntmps218;go_wp2
 refine bodyPost_ret (v:= .agg #[.int .u64 (hiN a b),.int .u64 (loN a b)]) ?_ rfl ⟨rfl,?_⟩
 ·rw[show hiN a b=_ from H.out.symm,show loN a b=_ from(d8j a b).symm];simp[results,results218,go_sem]
 ·exact(zR _ _).alloc (yR _) _
theorem e0j (hb:Below W.heap.size W w1):(∀b o,b<W.heap.size->w1.cell? ⟨b,o,none⟩=W.cell? ⟨b,o,none⟩)/\(∀b o,b<W.heap.size->w1.frozen? ⟨b,o,none⟩=W.frozen? ⟨b,o,none⟩) :=
 ⟨λb o h=>hb.cell (p:=⟨b,o,none⟩) h,λb o h=>hb.frozen (p:=⟨b,o,none⟩) h⟩
theorem e0k (n:Int): -1<=n.sign/\n.sign<=1:=by rcases c7c n with h|h|h <;> rw[h] <;> decide
theorem b5r (a b:Int): -1<=a.sign*b.sign/\a.sign*b.sign<=1:=by rw[<-Int.sign_mul];exact e0k _
theorem d4x (a b c d:Nat):d3m (hiN a b) (loN a b) (hiN c d) (loN c d)=c5t ((a*b:Nat):Int) ((c*d:Nat):Int):=c7a _ _
theorem a9c (a:Int)(a0 : -9223372036854775808<=a)(a1:a<=9223372036854775807):a.natAbs<18446744073709551616:=oM
theorem a3r {B:Nat}{a w:Wd}(h:Below B a w):∀n,Below B a (w.drewN n)
 |0=>h
 |n+1=>by
  have:=a3r h n;exact⟨this.os,this.tape,this.output,this.size,this.block⟩
theorem d7g {w2:Wd}{o1 o2:Obj}(aw:Below w.heap.size w w1)(az:Below (w1.alloc o1).heap.size (w1.alloc o1) w2)(n:Nat):Below w.heap.size w ((w2.alloc o2).drewN n):=by
 have h1:=aw.size;have h2:=az.size;simp at h2;exact a3r (((aw.alloc h1 o1).trans (az.mono uM)).alloc oM o2) n
theorem d8k (a b c d:Int)(h:c<a):d3m a b c d=1:=by unfold d3m;rw[b0e h,if_neg jM]
theorem d8l (a b c d:Int)(h:a<c):d3m a b c d = -1:=by unfold d3m;rw[b0d h,if_neg jM]
theorem b3l (a b d:Int):d3m a b a d=c5t b d:=by unfold d3m;rw[b3j,if_pos rfl]
theorem b5s (a b c d:Int)(w:Wd)(a0 : -9223372036854775808<=a)(a1:a<=9223372036854775807)(b0 : -9223372036854775808<=b)(b1:b<=9223372036854775807)
 (c0 : -9223372036854775808<=c) (c1:c<=9223372036854775807) (d0 : -9223372036854775808<=d) (d1:d<=9223372036854775807) :
 Zc prog 215 #[.int .i64 a,.int .i64 b,.int .i64 c,.int .i64 d] w (.int .i64 (c7b a b c d)):=by
 obtain⟨p0,p1⟩:=b5r a b;obtain⟨q0,q1⟩:=b5r c d;by_cases h:a.sign*b.sign=c.sign*d.sign
 ·have hb:(a.sign*b.sign != c.sign*d.sign)=false:=by simp[h]
  have HE:Hid (a.sign*b.sign*d3m (hiN a.natAbs b.natAbs) (loN a.natAbs b.natAbs) (hiN c.natAbs d.natAbs) (loN c.natAbs d.natAbs)=c7b a b c d):=by rw[d4x];exact d4v h
  clear h;go_enter func215,ntmps215;go_wp2_with (first|(go_at_call 217;refine(b7b _ _).mono ?_;rintro e w'⟨rfl,rfl⟩)|(go_at_call 219;refine(b9x _ _ gM gM).mono ?_;rintro e w'⟨rfl,rfl⟩));refine(b1d _ _ _ (a9c a a0 a1) (a9c b b0 b1)).mono ?_;rintro e w1⟨rfl,aw⟩;go_wp2_with (first|(go_at_call 217;refine(b7b _ _).mono ?_;rintro e w'⟨rfl,rfl⟩)|(go_at_call 219;refine(b9x _ _ gM gM).mono ?_;rintro e w'⟨rfl,rfl⟩));refine(b1d _ _ _ (a9c c c0 c1) (a9c d d0 d1)).mono ?_;rintro e w2⟨rfl,az⟩;generalize hiN a.natAbs b.natAbs=x0 at *;generalize loN a.natAbs b.natAbs=x1 at *;generalize hiN c.natAbs d.natAbs=y0 at *;generalize loN c.natAbs d.natAbs=y1 at *;have fT:w2.cell? ⟨w1.heap.size,0,none⟩=some (.int .u64 x0):=by rw[(e0j az).1 _ _ vM];simp
  have cj:w2.cell? ⟨w1.heap.size,1,none⟩=some (.int .u64 x1):=by rw[(e0j az).1 _ _ vM];simp
  have hz:w1.heap.size<w2.heap.size:=by have:=az.size;simp at this;omega
  go_wp2_with fail;refine wp_loop_rounds 3 ?_;rw[rounds_succ];rcases Int.lt_trichotomy x0 y0 with hx|hx|hx
  ·have hn:¬y0<x0:=oM
   have HF:=Lib.hid (d8l x0 x1 y0 y1 hx);go_wp2_with fail;go_quiet (fail)
   exact yij
  ·subst hx
   rcases Int.lt_trichotomy x1 y1 with hx|hx|hx
   ·have hn:¬y1<x1:=oM
    have HF:=Lib.hid ((b3l x0 x1 y1).trans (b0d hx));go_wp2_with fail;go_quiet (fail)
    go_wp2_with fail;go_quiet (fail)
    go_wp2_with fail;rw[rounds_succ];go_wp2_with fail;go_quiet (fail)
    exact yij
   ·subst hx
    have HF:=Lib.hid ((b3l x0 x1 x1).trans (b3j x1));go_wp2_with fail;go_quiet (fail)
    go_wp2_with fail;go_quiet (fail)
    go_wp2_with fail;rw[rounds_succ];go_wp2_with fail;go_quiet (fail)
    go_wp2_with fail;go_quiet (fail)
    go_wp2_with fail;rw[rounds_succ];exact ybu
   ·have hn:¬x1<y1:=oM
    have HF:=Lib.hid ((b3l x0 x1 y1).trans (b0e hx));go_wp2_with fail;go_quiet (fail)
    go_wp2_with fail;go_quiet (fail)
    go_wp2_with fail;rw[rounds_succ];exact yij
  ·have hn:¬x0<y0:=oM
   have HF:=Lib.hid (d8k x0 x1 y0 y1 hx);exact yij
 ·have HE:=Lib.hid (d4u h)
  have hb:(a.sign*b.sign != c.sign*d.sign)=true:=by simp[h]
  clear h;go_enter func215,ntmps215;go_wp2_with (go_at_call 217;refine(b7b _ _).mono ?_;rintro e w'⟨rfl,rfl⟩);go_ret;exact⟨a6l HE.out,zR _ _⟩
def e0l (e:Ending):Prop:=∃b:Bool,e= .returned (.bool b)
def e2c (e:Ending):Prop:=∃x:Int,e= .returned (.int .i64 x)
theorem st3 (h:Blk W b #[.int .i64 x,.int .i64 y,.int .i64 d] t):W.cell? ⟨b,0,none⟩=some (.int .i64 x)/\W.cell? ⟨b,1,none⟩=some (.int .i64 y)/\W.cell? ⟨b,2,none⟩=some (.int .i64 d):=⟨h.cell 0,h.cell 1,h.cell 2⟩
theorem a7i (x y:Int)(w:Wd):Zc prog 183 #[.agg #[.int .i64 x,.int .i64 y]] w (.agg #[.int .i64 x,.int .i64 y,.int .i64 1]):=by
 go_enter func183,ntmps183;go_wp2_with fail;have hk:=Blk.new (w.alloc (.cells #[.int .i64 x,.int .i64 y] 26)) #[.int .i64 x,.int .i64 y,.int .i64 1] 245;rw[World.size_alloc]at hk;exact bodyPost_ret (results_cell_row qM _ _ _ 245 _ (0,0) _ qM hk underlying245 qM zM) rfl ⟨rfl,zC⟩
theorem b1e (x y d:Int)(w:Wd):Calls prog 182 #[.agg #[.int .i64 x,.int .i64 y,.int .i64 d]] w λe w'=>e0l e/\Below w.heap.size w w':=by
 go_enter func182,ntmps182;go_wp2_with fail
 all_goals
  go_ret;exact⟨⟨_,rfl⟩,zC⟩
theorem d8m (x y d:Int)(w:Wd):Calls prog 214 #[.agg #[.int .i64 x,.int .i64 y,.int .i64 d]] w λe w'=>e0l e/\Below w.heap.size w w':=by
 go_enter func214,ntmps214;go_wp2_with (first|(go_at_call 141;refine(b0t _ _ _ _).mono ?_;rintro e w'⟨rfl,rfl⟩)|fail)
 all_goals
  go_ret;exact⟨⟨_,rfl⟩,zC⟩
theorem a6w (ax ay ad bx by_ bd px py pd:Int)(w:Wd):Calls prog 202 #[.agg #[.int .i64 ax,.int .i64 ay,.int .i64 ad],.agg #[.int .i64 bx,.int .i64 by_,.int .i64 bd],.agg #[.int .i64 px,.int .i64 py,.int .i64 pd]] w λe w'=>e2c e/\Below w.heap.size w w':=by
 go_enter func202,ntmps202;go_wp2_with (first
  |(go_at_call 214;refine(d8m _ _ _ _).mono ?_;rintro e w'⟨⟨b,rfl⟩,al⟩;obtain⟨p,rfl⟩:=a0c al;clear al)
  |(go_at_call 215;refine(b5s _ _ _ _ _ (a1c _).1 (a1c _).2 (a1c _).1 (a1c _).2 (a1c _).1 (a1c _).2 (a1c _).1 (a1c _).2).mono ?_;rintro e w'⟨rfl,al⟩;obtain⟨p,rfl⟩:=a0c al;clear al))
 all_goals
  go_ret;exact⟨⟨_,rfl⟩,zC⟩
theorem b7c (n d m e:Int)(w:Wd)(hn:fits n)(hd:fits d)(hm:fits m)(he:fits e):Calls prog 205 #[.agg #[.int .i64 n,.int .i64 d],.agg #[.int .i64 m,.int .i64 e]] w λo w'=>e2c o/\Below w.heap.size w w':=by
 go_enter func205,ntmps205;go_wp2_with (first
  |(go_at_call 215;refine(b5s _ _ _ _ _ hn.1 hn.2 he.1 he.2 hm.1 hm.2 hd.1 hd.2).mono ?_;rintro e w'⟨rfl,al⟩;obtain⟨p,rfl⟩:=a0c al;clear al))
 all_goals
  go_ret;exact⟨⟨_,rfl⟩,zC⟩
theorem d0m (x y d px py:Int)(w:Wd)(hy:fits y)(hd:fits d)(hp:fits py):Calls prog 204 #[.agg #[.int .i64 x,.int .i64 y,.int .i64 d],.agg #[.int .i64 px,.int .i64 py]] w λo w'=>e0l o/\Below w.heap.size w w':=by
 go_enter func204,ntmps204;go_wp2_with (first
  |(go_at_call 205;refine(b7c _ _ _ _ _ hy hd hp ⟨jM,jM⟩).mono ?_;rintro e w'⟨⟨r,rfl⟩,al⟩;obtain⟨p,rfl⟩:=a0c al;clear al))
 all_goals
  go_ret;exact⟨⟨_,rfl⟩,zC⟩
theorem d0n (n a b c d:Int)(w:Wd)(hn:fits n)(ha:fits a)(hb:fits b)(hc:fits c)(hd:fits d):Calls prog 203 #[.int .i64 n,.agg #[.int .i64 a,.int .i64 b],.agg #[.int .i64 c,.int .i64 d]] w λo w'=>e2c o/\Below w.heap.size w w':=by
 go_enter func203,ntmps203;go_wp2_with (first
  |(go_at_call 205;refine(b7c _ _ _ _ _ hn ⟨jM,jM⟩ (by first|exact ha|exact hc) (by first|exact hb|exact hd)).mono ?_;rintro e w'⟨⟨r,rfl⟩,al⟩;obtain⟨p,rfl⟩:=a0c al;clear al))
 all_goals
  go_ret;exact⟨⟨_,rfl⟩,zC⟩
structure On3 (wr:Wd)(B3 B4 B5:Nat)(ax ay ad bx by_ bd px py:Int)(W:Wd):Prop where
 bel:Below wr.heap.size wr W
 a:Blk W B3 #[.int .i64 ax,.int .i64 ay,.int .i64 ad] 245
 b:Blk W B4 #[.int .i64 bx,.int .i64 by_,.int .i64 bd] 245
 p:Blk W B5 #[.int .i64 px,.int .i64 py] 26
theorem On3.up (h:On3 wr B3 B4 B5 ax ay ad bx by_ bd px py W)(hb:Below W.heap.size W W'):On3 wr B3 B4 B5 ax ay ad bx by_ bd px py W' :=
 ⟨h.bel.trans (hb.mono h.bel.size),h.a.below hb h.a.lt,h.b.below hb h.b.lt,h.p.below hb h.p.lt⟩
def FOn (B3 B4 B5:Nat)(ax ay ad bx by_ bd px py:Int)(i:Nat)(v:Vu)(w:Wd):Prop :=
 match i with
 |0=>v= .agg #[.int .i64 ax,.int .i64 ay,.int .i64 ad]
 |1=>v= .agg #[.int .i64 bx,.int .i64 by_,.int .i64 bd]
 |2=>v= .agg #[.int .i64 px,.int .i64 py]
 |3=>v= .agg #[.int .i64 px,.int .i64 py,.int .i64 1]
 |4=>∃x,v= .int .i64 x
 |_=>False
theorem FOn.kept (h:FOn B3 B4 B5 ax ay ad bx by_ bd px py i v w)(hg:Below w.heap.size w w'):FOn B3 B4 B5 ax ay ad bx by_ bd px py i v w':=by
 unfold FOn at *;split at h
 all_goals first|exact h|(exact h)
theorem d8n (ax ay ad bx by_ bd px py:Int)(w:Wd)(f0:fits ax)(f1:fits ay)(f2:fits ad)(f3:fits bx)(f4:fits by_)(f5:fits bd)(f6:fits px)(f7:fits py):
 Calls prog 184 #[.agg #[.int .i64 ax,.int .i64 ay,.int .i64 ad],.agg #[.int .i64 bx,.int .i64 by_,.int .i64 bd],.agg #[.int .i64 px,.int .i64 py]] w λe w'=>e0l e/\Below w.heap.size w w':=by
 go_enter func184,ntmps184;go_upto_region 1 with fail;have hm:On3 w w.heap.size (w.heap.size+1) (w.heap.size+1+1) ax ay ad bx by_ bd px py (((w.alloc (.cells #[.int .i64 ax,.int .i64 ay,.int .i64 ad] 245)).alloc (.cells #[.int .i64 bx,.int .i64 by_,.int .i64 bd] 245)).alloc (.cells #[.int .i64 px,.int .i64 py] 26)):=by
  have k1:=Blk.new (w.alloc (.cells #[.int .i64 ax,.int .i64 ay,.int .i64 ad] 245)) #[.int .i64 bx,.int .i64 by_,.int .i64 bd] 245;have k2:=Blk.new ((w.alloc (.cells #[.int .i64 ax,.int .i64 ay,.int .i64 ad] 245)).alloc (.cells #[.int .i64 bx,.int .i64 by_,.int .i64 bd] 245)) #[.int .i64 px,.int .i64 py] 26;simp only[World.size_alloc]at k1 k2;exact⟨zC,((Blk.new w _ _).alloc _).alloc _,k1.alloc _,k2⟩
 obtain⟨W1,aH⟩:=zE ((((w.alloc (.cells #[.int .i64 ax,.int .i64 ay,.int .i64 ad] 245)).alloc (.cells #[.int .i64 bx,.int .i64 by_,.int .i64 bd] 245)).alloc (.cells #[.int .i64 px,.int .i64 py] 26)));obtain⟨B5,fQ⟩:=zE (w.heap.size+1+1);obtain⟨B4,bZ⟩:=zE (w.heap.size+1);obtain⟨B3,aN⟩:=zE w.heap.size;rw[aH,fQ,bZ]at hm;rw[aH,fQ,bZ];have cV:On3 w B3 B4 B5 ax ay ad bx by_ bd px py W1:=aN▸hm;rw[aN];clear hm aH fQ bZ aN;refine Go.wp_region_rel 5 zM zM (λ_ W=>On3 w B3 B4 B5 ax ay ad bx by_ bd px py W) (λw w'=>Below w.heap.size w w') (FOn B3 B4 B5 ax ay ad bx by_ bd px py) (λ_ _ _ _ h g=>h.kept g) (cV.up (zR _ _).drew) ?_ ?_
 ·clear cV
  intro i o hi ho c bb W hc hM hA hD K hK;match i,hi,ho with
  |0,_,ho =>
   cases ho;have f3:=a0a (v:= .pointer (some ⟨B3,0,none⟩)) (hA.at_ (k:=3) zM);have z0:W.cell? ⟨B3,0,none⟩=some (.int .i64 ax):=hM.a.cell 0;have z1:W.cell? ⟨B3,1,none⟩=some (.int .i64 ay):=hM.a.cell 1;have z2:W.cell? ⟨B3,2,none⟩=some (.int .i64 ad):=hM.a.cell 2;exact yku
  |1,_,ho =>
   cases ho;have f4:=a0a (v:= .pointer (some ⟨B4,0,none⟩)) (hA.at_ (k:=4) zM);have z0:W.cell? ⟨B4,0,none⟩=some (.int .i64 bx):=hM.b.cell 0;have z1:W.cell? ⟨B4,1,none⟩=some (.int .i64 by_):=hM.b.cell 1;have z2:W.cell? ⟨B4,2,none⟩=some (.int .i64 bd):=hM.b.cell 2;exact ykp
  |2,_,ho =>
   cases ho;have f5:=a0a (v:= .pointer (some ⟨B5,0,none⟩)) (hA.at_ (k:=5) zM);have z0:W.cell? ⟨B5,0,none⟩=some (.int .i64 px):=hM.p.cell 0;have z1:W.cell? ⟨B5,1,none⟩=some (.int .i64 py):=hM.p.cell 1;go_simp;exact hK (.agg #[.int .i64 px,.int .i64 py]) W rfl (zR _ _) hM
  |3,_,ho =>
   cases ho;have f11:=a0a (v:= .agg #[.int .i64 px,.int .i64 py]) (a0b hD 2 11 zM rfl rfl);go_simp;refine(a7i px py W).mono ?_;rintro e W'⟨rfl,hb⟩;go_simp;exact hK (.agg #[.int .i64 px,.int .i64 py,.int .i64 1]) W' rfl hb (hM.up hb)
  |4,_,ho =>
   cases ho;have f9:=a0a (v:= .agg #[.int .i64 ax,.int .i64 ay,.int .i64 ad]) (a0b hD 0 9 zM rfl rfl);have f10:=a0a (v:= .agg #[.int .i64 bx,.int .i64 by_,.int .i64 bd]) (a0b hD 1 10 zM rfl rfl);have f12:=a0a (v:= .agg #[.int .i64 px,.int .i64 py,.int .i64 1]) (a0b hD 3 12 zM rfl rfl);go_simp;refine(a6w _ _ _ _ _ _ _ _ _ W).mono ?_;rintro e W'⟨⟨x,rfl⟩,hb⟩;go_simp;exact hK (.int .i64 x) W' ⟨x,rfl⟩ hb (hM.up hb)
  |i+5,hi,_=>exact absurd hi oM
 ·intro bb W hM hA ah
  obtain⟨X,gp⟩:=(show ∃x,bb.eval (.tmp 13)= .int .i64 x from ah 4 oM _ _ rfl rfl);have aC:=hA.frame (rT 9 (rF 5 (rT 33 ([])))) _ rfl zM;clear ah hA cV;obtain⟨f,hf⟩:=zDt bb;have g13:f 13= .int .i64 X:=by rw[<-hf,<-gp];rfl
  rw[hf]at aC;clear hf gp;subst aC;simp only[rT,rF,a2d,g13,Nat.reduceAdd];clear g13;simp only[zU];obtain⟨bel,ka,kb,kp⟩:=hM;obtain⟨a0,a1,a2⟩:=st3 ka;obtain⟨b0,b1,b2⟩:=st3 kb;obtain⟨p0,p1,-,-⟩:=pt2 kp;clear ka kb kp;by_cases hX:X=0
  ·have PC:(X != 0)=false:=by simp[hX]
   go_wp2_with (first
    |(go_at_call 203;refine(d0n _ _ _ _ _ _ gM gM gM gM gM).mono ?_;rintro e w'⟨⟨r,rfl⟩,al⟩;obtain⟨p,rfl⟩:=a0c al;clear al))
   all_goals
    go_ret;exact⟨⟨_,rfl⟩,bel.trans (Below.mono zC bel.size)⟩
  ·have PC:(X != 0)=true:=by simp[hX]
   go_wp2_with fail;go_ret;exact⟨⟨_,rfl⟩,bel⟩
theorem c2y (ax ay ad bx by_ bd px py:Int)(w:Wd)(f1:fits ay)(f2:fits ad)(f4:fits by_)(f5:fits bd)(f7:fits py):
 Calls prog 185 #[.agg #[.int .i64 ax,.int .i64 ay,.int .i64 ad],.agg #[.int .i64 bx,.int .i64 by_,.int .i64 bd],.agg #[.int .i64 px,.int .i64 py]] w λe w'=>e2c e/\Below w.heap.size w w':=by
 go_enter func185,ntmps185;go_wp2_with (first
  |(go_at_call 183;refine(a7i _ _ _).mono ?_;rintro e w'⟨rfl,al⟩;obtain⟨p,rfl⟩:=a0c al;clear al)
  |(go_at_call 204;refine(d0m _ _ _ _ _ _ gM gM gM).mono ?_;rintro e w'⟨⟨b,rfl⟩,al⟩;obtain⟨p,rfl⟩:=a0c al;clear al)
  |(go_at_call 202;refine(a6w _ _ _ _ _ _ _ _ _ _).mono ?_;rintro e w'⟨⟨r,rfl⟩,al⟩;obtain⟨p,rfl⟩:=a0c al;clear al))
 all_goals
  go_ret;exact⟨⟨_,rfl⟩,zC⟩
theorem c7d (a0 a1 a2 a3 a4 a5 a6 b0 b1 b2 b3 b4 b5 b6:Int)(w:Wd)(f1:fits a1)(f2:fits a2)(f4:fits b1)(f5:fits b2):
 Calls prog 186 #[.agg #[.int .i64 a0,.int .i64 a1,.int .i64 a2,.int .i64 a3,.int .i64 a4,.int .i64 a5,.int .i64 a6],.agg #[.int .i64 b0,.int .i64 b1,.int .i64 b2,.int .i64 b3,.int .i64 b4,.int .i64 b5,.int .i64 b6]] w λe w'=>e0l e/\Below w.heap.size w w':=by
 go_enter func186,ntmps186;go_wp2_with (first
  |(go_at_call 205;refine(b7c _ _ _ _ _ gM gM gM gM).mono ?_;rintro e w'⟨⟨r,rfl⟩,al⟩;obtain⟨p,rfl⟩:=a0c al;clear al)
  |(go_at_call 202;refine(a6w _ _ _ _ _ _ _ _ _ _).mono ?_;rintro e w'⟨⟨r,rfl⟩,al⟩;obtain⟨p,rfl⟩:=a0c al;clear al))
 all_goals
  go_ret;exact⟨⟨_,rfl⟩,zC⟩
theorem d8o (hx:fits x)(hy:fits y)(hd:fits d):TB S W 245 #[.int .i64 x,.int .i64 y,.int .i64 d]:=c2x rfl rfl λi u ct h1 h2=>by
 match i with
 |0=>cases h1;cases h2;exact CT.ok_int hx
 |1=>cases h1;cases h2;exact CT.ok_int hy
 |2=>cases h1;cases h2;exact CT.ok_int hd
 |i+3=>simp at h1
structure Tr (w:Wd)(BT:Nat)(c:Array Value)(S:BS)(W:Wd):Prop where
 ev:Ev noB noB w S W
 b:Blk W BT c 249
 n:¬S BT
 l:w.heap.size<=BT
theorem Tr.evo {S':BS}(h:Tr w BT c S W)(he:Ev noB S W S' W'):Tr w BT c S' W':=⟨h.ev.trans he,he.blk h.b h.n (λh=>h),he.not h.b.lt h.n,h.l⟩
theorem Tr.set (h:Tr w BT c S W)(i:Nat)(v:Vu):Tr w BT (c.setIfInBounds i v) S (W.setCell ⟨BT,i,none⟩ v) :=
 ⟨h.ev.own (a0z W BT i v) (λr e=>by cases e;exact⟨h.n,h.l⟩),h.b.set i v,h.n,h.l⟩
theorem Ev.low (h:Ev noB noB w S W):Below w.heap.size w W:=h.below (λ_ h=>h.elim) (λ_ h=>h.elim) (yR _)
structure TrM (wr:Wd)(BT:Nat)(c:Array Value)(W:Wd):Prop where
 bel:Below wr.heap.size wr W
 b:Blk W BT c 249
theorem TrM.up (h:TrM wr BT c W)(hb:Below W.heap.size W W'):TrM wr BT c W':=⟨h.bel.trans (hb.mono h.bel.size),h.b.below hb h.b.lt⟩
def FTc (wr:Wd)(b off m cap k:Nat)(id l r:Int)(i:Nat)(v:Vu)(w:Wd):Prop :=
 match i with
 |0=>v= .slice (some ⟨b,off,none⟩) m cap
 |1=>v= .int .i64 (k:Nat)
 |2=>v= .pointer (some ⟨b,off+k*4,none⟩)
 |3=>v= .pointer (some ⟨b,off+k*4,none⟩)
 |4=>v= .int .i64 id
 |5=>v= .slice (some ⟨b,off,none⟩) m cap
 |6=>v= .int .i64 (k:Nat)
 |7=>v= .pointer (some ⟨b,off+k*4,none⟩)
 |8=>v= .pointer (some ⟨b,off+k*4+2,none⟩)
 |9=>v= .int .i64 l
 |10=>v= .slice (some ⟨b,off,none⟩) m cap
 |11=>v= .int .i64 (k:Nat)
 |12=>v= .pointer (some ⟨b,off+k*4,none⟩)
 |13=>v= .pointer (some ⟨b,off+k*4+3,none⟩)
 |14=>v= .int .i64 r
 |15=>v= .agg #[.int .i64 id,.slice none 0 0,.int .i64 l,.int .i64 r]
 |16=>∃B,v= .pointer (some ⟨B,0,none⟩)/\wr.heap.size<=B/\Blk w B #[.int .i64 0,.slice none 0 0,.int .i64 0,.int .i64 0] 249
 |_=>False
theorem FTc.kept {id:Int}(h:FTc wr b off m cap k id l r i v w)(hg:Below w.heap.size w w'):FTc wr b off m cap k id l r i v w':=by
 unfold FTc at *;exact yjy
def FTr (wr:Wd)(BT b off m cap k pb po q ar ci:Nat)(x y:Int)(tv:Vu)(i:Nat)(v:Vu)(w:Wd):Prop :=
 match i with
 |0=>v= .pointer (some ⟨BT,1,none⟩)
 |1=>v=tv
 |2=>v= .slice (some ⟨b,off,none⟩) m cap
 |3=>v= .int .i64 (k:Nat)
 |4=>v= .pointer (some ⟨b,off+k*4,none⟩)
 |5=>v= .pointer (some ⟨b,off+k*4+1,none⟩)
 |6=>v= .slice (some ⟨pb,po,none⟩) q ar
 |7=>v= .int .i64 (ci:Nat)
 |8=>v= .pointer (some ⟨pb,po+ci*2,none⟩)
 |9=>v= .agg #[.int .i64 x,.int .i64 y]
 |10=>v= .agg #[.int .i64 x,.int .i64 y,.int .i64 1]
 |11=>∃L,v= .slice (some ⟨L,0,none⟩) 1 1/\wr.heap.size<=L/\Blk w L #[.int .i64 x,.int .i64 y,.int .i64 1] 245
 |_=>False
theorem FTr.kept {pb po q ar ci:Nat}{tv:Vu}(h:FTr wr BT b off m cap k pb po q ar ci x y tv i v w)(hg:Below w.heap.size w w'):FTr wr BT b off m cap k pb po q ar ci x y tv i v w':=by
 unfold FTr at *;exact yjx
theorem c7e (S:BS)(w:Wd)(hT:TW S w)(ev:Vu)(m:Nat)(dX:SL S w 206 ev m)(hm:m<=100):
 Calls prog 166 #[ev] w λe w'=>∃S' v,e= .returned v/\(∃n,SL S' w' 249 v n/\n<=100)/\Ev noB noB w S' w':=by
 obtain⟨ea,cap,rfl,xJ⟩:=dX.form;go_enter func166,ntmps166;go_wp2_with fail;go_loopw [3,4] (λv kk wr=>∃(k:Nat) (S':BS),k<=m/\kk= .int .i64 (k:Nat)/\SL S' wr 249 v k/\Ev noB noB w S' wr) (λ_ kk _=>m-(intOf kk).toNat)
 case atStart=>exact⟨0,noB,Nat.zero_le _,rfl,SL.nil _ _ _,Ev.refl (TW.none _)⟩
 case round =>
  obtain⟨k,S1,hk,rfl,bH,bC⟩:=hrel;by_cases ag:k<m
  ·have aA:(k:Int)<(m:Int):=oM
   obtain⟨b,off,aI,bL,-,-⟩:=dX.some_ oM;simp only[Value.slice.injEq,true_and]at bL;obtain⟨rfl,rfl⟩:=bL;obtain⟨id,l,r,lv,q,c0,c1,c2,c3,f0,f2,f3,aJ,hq⟩:=SL.edge hT dX ag;obtain⟨la,ar,rfl,-⟩:=aJ.form;have fT:∀W,Below wr.heap.size wr W->W.cell? ⟨b,off+k*4,none⟩=some (.int .i64 id):=λW h=>((bC.low.trans (h.mono bC.size)).cell (p:=⟨b,_,none⟩) (World.block_lt_of_cell? _ _ c0)).trans c0
   have cj:∀W,Below wr.heap.size wr W->W.cell? ⟨b,off+k*4+1,none⟩=some (.slice la q ar):=λW h=>((bC.low.trans (h.mono bC.size)).cell (p:=⟨b,_,none⟩) (World.block_lt_of_cell? _ _ c1)).trans c1
   have bK:∀W,Below wr.heap.size wr W->W.cell? ⟨b,off+k*4+2,none⟩=some (.int .i64 l):=λW h=>((bC.low.trans (h.mono bC.size)).cell (p:=⟨b,_,none⟩) (World.block_lt_of_cell? _ _ c2)).trans c2
   have nD:∀W,Below wr.heap.size wr W->W.cell? ⟨b,off+k*4+3,none⟩=some (.int .i64 r):=λW h=>((bC.low.trans (h.mono bC.size)).cell (p:=⟨b,_,none⟩) (World.block_lt_of_cell? _ _ c3)).trans c3
   go_upto_region 5 with fail;refine Go.wp_region_rel 17 zM zM (λ_ W=>Below wr.heap.size wr W) (λw w'=>Below w.heap.size w w') (FTc wr b off m cap k id l r) (λ_ _ _ _ h g=>h.kept g) (zR _ _).drew ?_ ?_
   ·clear bH bC dX aJ hT c0 c1 c2 c3 cj
    intro i o hi ho c bb W hc hM hA hD K hK;match i,hi,ho with
    |0,_,ho =>
     exact yck
    |1,_,ho =>
     exact yep
    |2,_,ho =>
     cases ho;have f13:=a0a (v:= .slice (some ⟨b,off,none⟩) m cap) (a0b hD 0 13 zM rfl rfl);have f14:=a0a (v:= .int .i64 (k:Nat)) (a0b hD 1 14 zM rfl rfl);exact ycu
    |3,_,ho =>
     cases ho;have f15:=a0a (v:= .pointer (some ⟨b,off+k*4,none⟩)) (a0b hD 2 15 zM rfl rfl);exact ycu
    |4,_,ho =>
     cases ho;have f16:=a0a (v:= .pointer (some ⟨b,off+k*4,none⟩)) (a0b hD 3 16 zM rfl rfl);have z0:W.cell? ⟨b,off+k*4,none⟩=some (.int .i64 id):=fT W hM;exact ykf
    |5,_,ho =>
     exact yck
    |6,_,ho =>
     exact yep
    |7,_,ho =>
     cases ho;have f18:=a0a (v:= .slice (some ⟨b,off,none⟩) m cap) (a0b hD 5 18 zM rfl rfl);have f19:=a0a (v:= .int .i64 (k:Nat)) (a0b hD 6 19 zM rfl rfl);exact ycu
    |8,_,ho =>
     cases ho;have f20:=a0a (v:= .pointer (some ⟨b,off+k*4,none⟩)) (a0b hD 7 20 zM rfl rfl);exact ykk
    |9,_,ho =>
     cases ho;have f21:=a0a (v:= .pointer (some ⟨b,off+k*4+2,none⟩)) (a0b hD 8 21 zM rfl rfl);have z0:W.cell? ⟨b,off+k*4+2,none⟩=some (.int .i64 l):=bK W hM;go_simp;exact hK (.int .i64 l) W rfl (zR _ _) hM
    |10,_,ho =>
     exact yck
    |11,_,ho =>
     exact yep
    |12,_,ho =>
     cases ho;have f23:=a0a (v:= .slice (some ⟨b,off,none⟩) m cap) (a0b hD 10 23 zM rfl rfl);have f24:=a0a (v:= .int .i64 (k:Nat)) (a0b hD 11 24 zM rfl rfl);exact ycu
    |13,_,ho =>
     cases ho;have f25:=a0a (v:= .pointer (some ⟨b,off+k*4,none⟩)) (a0b hD 12 25 zM rfl rfl);exact ykn
    |14,_,ho =>
     cases ho;have f26:=a0a (v:= .pointer (some ⟨b,off+k*4+3,none⟩)) (a0b hD 13 26 zM rfl rfl);have z0:W.cell? ⟨b,off+k*4+3,none⟩=some (.int .i64 r):=nD W hM;go_simp;exact hK (.int .i64 r) W rfl (zR _ _) hM
    |15,_,ho =>
     cases ho;have f17:=a0a (v:= .int .i64 id) (a0b hD 4 17 zM rfl rfl);have f22:=a0a (v:= .int .i64 l) (a0b hD 9 22 zM rfl rfl);have f27:=a0a (v:= .int .i64 r) (a0b hD 14 27 zM rfl rfl);go_simp;exact hK (.agg #[.int .i64 id,.slice none 0 0,.int .i64 l,.int .i64 r]) W rfl (zR _ _) hM
    |16,_,ho =>
     cases ho;go_simp;exact hK (.pointer (some ⟨W.heap.size,0,none⟩)) _ ⟨_,rfl,hM.size,Blk.new _ _ _⟩ ((zR _ _).alloc (yR _) _) (hM.alloc hM.size _)
    |i+17,hi,_=>exact absurd hi oM
   ·intro bb W hM hA ah
    have C3:bb.eval (.tmp 28)= .agg #[.int .i64 id,.slice none 0 0,.int .i64 l,.int .i64 r]:=ah 15 oM _ _ rfl rfl;obtain⟨BT,C4,nz,sA⟩:=(show ∃B,bb.eval (.tmp 5)= .pointer (some ⟨B,0,none⟩)/\wr.heap.size<=B/\Blk W B #[.int .i64 0,.slice none 0 0,.int .i64 0,.int .i64 0] 249 from ah 16 oM _ _ rfl rfl);have aC:=hA.frame (rT 5 (rF 1 (rT 7 (rF 16 (rT 29 ([])))))) _ rfl zM;clear ah hA;obtain⟨f,hf⟩:=zDt bb;have L7:f 28= .agg #[.int .i64 id,.slice none 0 0,.int .i64 l,.int .i64 r]:=by rw[<-hf,<-C3];rfl
    have g5:f 5= .pointer (some ⟨BT,0,none⟩):=by rw[<-hf,<-C4];rfl
    rw[hf]at aC;clear hf C3 C4;subst aC;simp only[rT,rF,a2d,L7,g5,Nat.reduceAdd];clear L7 g5;simp only[zU];have sU:=sA.frozen 0;have sV:=sA.frozen 1;have PD:=sA.frozen 2;have PE:=sA.frozen 3;obtain⟨q0,q1,q2,q3⟩:=(⟨sA.cell 0,sA.cell 1,sA.cell 2,sA.cell 3⟩:W.cell? ⟨BT,0,none⟩=some (.int .i64 0)/\W.cell? ⟨BT,1,none⟩=some (.slice none 0 0)/\W.cell? ⟨BT,2,none⟩=some (.int .i64 0)/\W.cell? ⟨BT,3,none⟩=some (.int .i64 0));go_upto_region 6 with fail;refine a0m (λW5 iq=> ?_);have hn:¬S1 BT:=λh=>by have:=bC.ok.lt h;omega
    have pE:Ev noB S1 wr S1 W:=Ev.of_below bC.ok hM;have jb:Tr w BT #[.int .i64 id,.slice none 0 0,.int .i64 l,.int .i64 r] S1 W5/\Shp S1 W W5:=by
     have h1:Tr w BT _ S1 W:=⟨bC.trans pE,sA,hn,Nat.le_trans bC.size nz⟩;have h2:=(((h1.set 0 (.int .i64 id)).set 1 (.slice none 0 0)).set 2 (.int .i64 l)).set 3 (.int .i64 r);rw[iq];exact⟨by simpa using h2,(((Shp.set hn 0 _).trans (Shp.set hn 1 _) (λ_ h=>h)).trans (Shp.set hn 2 _) (λ_ h=>h)).trans (Shp.set hn 3 _) (λ_ h=>h)⟩
    have C5:=(pE.sl bH).mono (λ_ h=>h) jb.2;replace jb:=jb.1;clear iq q0 q1 q2 q3 sU sV PD PE sA hM pE hn fT cj bK nD bH bC nz;obtain⟨ov,FE⟩:∃v,v=u3:=⟨_,rfl⟩;subst FE;go_wp2_with fail;go_loopw [6] (λii wx=>∃(ci:Nat) (S2:BS) (tv:Vu),ci<=q/\ii= .int .i64 (ci:Nat)/\SL S2 wx 245 tv ci/\SL S2 wx 249 ov k/\Tr w BT #[.int .i64 id,tv,.int .i64 l,.int .i64 r] S2 wx) (λii _=>q-(intOf ii).toNat)
    case atStart=>exact⟨0,S1,_,Nat.zero_le _,rfl,SL.nil _ _ _,C5,jb⟩
    case round =>
     clear jb C5;obtain⟨ci,S2,tv,mu,rfl,au,mg,jb⟩:=hrel;have eM:=jb.ev.low;have cj:∀W,Below wr.heap.size wr W->W.cell? ⟨b,off+k*4+1,none⟩=some (.slice la q ar):=λW h=>((eM.trans (h.mono jb.ev.size)).cell (p:=⟨b,_,none⟩) (World.block_lt_of_cell? _ _ c1)).trans c1
     have PF:=cj wr (zR _ _);by_cases Ax:ci<q
     ·have xP:(ci:Int)<(q:Int):=oM
      obtain⟨pb,po,qc,iJ,-,-⟩:=aJ.some_ oM;simp only[Value.slice.injEq,true_and]at iJ;obtain⟨rfl,rfl⟩:=iJ;obtain⟨x,y,cx,cy,fx,fy⟩:=SL.point hT aJ Ax;have hx:∀W,Below wr.heap.size wr W->W.cell? ⟨pb,po+ci*2,none⟩=some (.int .i64 x):=λW h=>((eM.trans (h.mono jb.ev.size)).cell (p:=⟨pb,_,none⟩) (World.block_lt_of_cell? _ _ cx)).trans cx
      have hy:∀W,Below wr.heap.size wr W->W.cell? ⟨pb,po+ci*2+1,none⟩=some (.int .i64 y):=λW h=>((eM.trans (h.mono jb.ev.size)).cell (p:=⟨pb,_,none⟩) (World.block_lt_of_cell? _ _ cy)).trans cy
      go_upto_region 9 with fail;refine Go.wp_region_rel 12 zM zM (λ_ W=>TrM wr BT #[.int .i64 id,tv,.int .i64 l,.int .i64 r] W) (λw w'=>Below w.heap.size w w') (FTr wr BT b off m cap k pb po q ar ci x y tv) (λ_ _ _ _ h g=>h.kept g) ((⟨zR _ _,jb.b⟩:TrM wr BT #[.int .i64 id,tv,.int .i64 l,.int .i64 r] wr).up (zR _ _).drew) ?_ ?_
      ·clear au mg dX aJ hT c0 c1 c2 c3 PF cx cy jb eM
       intro i o hi ho c bb W hc hM hA hD K hK;match i,hi,ho with
       |0,_,ho =>
        cases ho;have f5:=a0a (v:= .pointer (some ⟨BT,0,none⟩)) (hA.at_ (k:=5) zM);go_simp;exact hK (.pointer (some ⟨BT,1,none⟩)) W rfl (zR _ _) hM
       |1,_,ho =>
        cases ho;have f39:=a0a (v:= .pointer (some ⟨BT,1,none⟩)) (a0b hD 0 39 zM rfl rfl);have z0:W.cell? ⟨BT,1,none⟩=some (tv):=hM.b.cell 1;go_simp;exact hK (tv) W rfl (zR _ _) hM
       |2,_,ho =>
        exact yck
       |3,_,ho =>
        exact yep
       |4,_,ho =>
        cases ho;have f41:=a0a (v:= .slice (some ⟨b,off,none⟩) m cap) (a0b hD 2 41 zM rfl rfl);have f42:=a0a (v:= .int .i64 (k:Nat)) (a0b hD 3 42 zM rfl rfl);exact ycu
       |5,_,ho =>
        cases ho;have f43:=a0a (v:= .pointer (some ⟨b,off+k*4,none⟩)) (a0b hD 4 43 zM rfl rfl);go_simp;exact hK (.pointer (some ⟨b,off+k*4+1,none⟩)) W rfl (zR _ _) hM
       |6,_,ho =>
        cases ho;have f44:=a0a (v:= .pointer (some ⟨b,off+k*4+1,none⟩)) (a0b hD 5 44 zM rfl rfl);have z0:W.cell? ⟨b,off+k*4+1,none⟩=some (.slice (some ⟨pb,po,none⟩) q ar):=cj W hM.bel;go_simp;exact hK (.slice (some ⟨pb,po,none⟩) q ar) W rfl (zR _ _) hM
       |7,_,ho =>
        cases ho;have f6:=a0a (v:= .int .i64 (ci:Nat)) (hA.at_ (k:=6) zM);go_simp;exact hK (.int .i64 (ci:Nat)) W rfl (zR _ _) hM
       |8,_,ho =>
        cases ho;have f45:=a0a (v:= .slice (some ⟨pb,po,none⟩) q ar) (a0b hD 6 45 zM rfl rfl);have f46:=a0a (v:= .int .i64 (ci:Nat)) (a0b hD 7 46 zM rfl rfl);go_simp;exact hK (.pointer (some ⟨pb,po+ci*2,none⟩)) W rfl (zR _ _) hM
       |9,_,ho =>
        cases ho;have f47:=a0a (v:= .pointer (some ⟨pb,po+ci*2,none⟩)) (a0b hD 8 47 zM rfl rfl);have z0:W.cell? ⟨pb,po+ci*2,none⟩=some (.int .i64 x):=hx W hM.bel;have z1:W.cell? ⟨pb,po+ci*2+1,none⟩=some (.int .i64 y):=hy W hM.bel;go_simp;exact hK (.agg #[.int .i64 x,.int .i64 y]) W rfl (zR _ _) hM
       |10,_,ho =>
        cases ho;have f48:=a0a (v:= .agg #[.int .i64 x,.int .i64 y]) (a0b hD 9 48 zM rfl rfl);go_simp;refine(a7i x y W).mono ?_;rintro e W'⟨rfl,hb⟩;go_simp;exact hK (.agg #[.int .i64 x,.int .i64 y,.int .i64 1]) W' rfl hb (hM.up hb)
       |11,_,ho =>
        cases ho;have f49:=a0a (v:= .agg #[.int .i64 x,.int .i64 y,.int .i64 1]) (a0b hD 10 49 zM rfl rfl);exact ygq
       |i+12,hi,_=>exact absurd hi oM
      ·intro bb W hM hA ah
       obtain⟨L,iZ,mh,kL⟩:=(show ∃L,bb.eval (.tmp 50)= .slice (some ⟨L,0,none⟩) 1 1/\wr.heap.size<=L/\Blk W L #[.int .i64 x,.int .i64 y,.int .i64 1] 245 from ah 11 oM _ _ rfl rfl);have tP:bb.eval (.tmp 40)=tv:=ah 1 oM _ _ rfl rfl;have aC:=hA.frame (rT 39 (rF 12 (rT 7 ([])))) _ rfl zM;clear ah hA;obtain⟨f,hf⟩:=zDt bb;have C6:f 50= .slice (some ⟨L,0,none⟩) 1 1:=by rw[<-hf,<-iZ];rfl
       have Ht:f 40=tv:=by rw[<-hf,<-tP];rfl
       rw[hf]at aC;clear hf iZ tP;subst aC;simp only[rT,rF,a2d,C6,Ht,Nat.reduceAdd];clear C6 Ht;simp only[zU];have pE:Ev noB S2 wr (λb=>S2 b\/b=L) W:=(Ev.of_below jb.ev.ok hM.bel).adopt mh kL (d8o fx fy ⟨jM,jM⟩);have h4:=jb.evo pE;have HU:=pE.sl au;have xI:=pE.sl mg;have Hz:SL (λb=>S2 b\/b=L) W 245 (.slice (some ⟨L,0,none⟩) 1 1) 1:=SL.blk (.inr rfl) kL (by show 1*3<=3;omega);clear jb au mg hM pE eM;go_wp2_with (first
        |(at_builtin;refine a1q (X:=noB) h4.ev.ok qM _ _ 247 qM underlying247 b6v qM HU qM Hz oM ?_;intro v9 S9 w9 aX cG;obtain⟨a9,c9,rfl,-⟩:=aX.form;have h5:=h4.evo cG;have o1:w9.cell? ⟨BT,1,none⟩=some tv:=h5.b.cell 1;have Px:=h5.b.frozen 1))
       go_roundw
       case rel=>exact⟨ci+1,S9,_,oM,by go_num,SL.mono aX (λ_ h=>h) (Shp.set h5.n _ _),SL.mono (cG.sl xI) (λ_ h=>h) (Shp.set h5.n _ _),by have h6:=h5.set 1 (.slice a9 (ci+1) c9);simpa using h6⟩
       case measure=>simp[intOf];omega
     ·obtain rfl:ci=q:=oM
      have aY:¬(ci:Int)<(ci:Int):=oM;obtain⟨ta,tc,rfl,-⟩:=au.form;obtain⟨t0,t1,t2,t3⟩:=(⟨jb.b.cell 0,jb.b.cell 1,jb.b.cell 2,jb.b.cell 3⟩:wr.cell? ⟨BT,0,none⟩=some (.int .i64 id)/\wr.cell? ⟨BT,1,none⟩=some (.slice ta ci tc)/\wr.cell? ⟨BT,2,none⟩=some (.int .i64 l)/\wr.cell? ⟨BT,3,none⟩=some (.int .i64 r));go_wp2_with (first
       |(at_builtin;refine a1a jb.ev.ok qM _ _ 226 qM underlying226 a9b qM mg qM rfl (d4q f0 f2 f3 au hq) rfl oM ?_;intro v9 S9 w9 aX cG))
      go_roundw
      case rel=>exact⟨k+1,S9,oM,by go_num,aX,jb.ev.trans cG⟩
      case measure=>simp[intOf];omega
  ·obtain rfl:k=m:=oM
   have aY:¬(k:Int)<(k:Int):=oM;go_wp2_with fail;go_ret;exact⟨S1,_,rfl,⟨k,bH,hm⟩,bC⟩
theorem SL.trace (hT:TW S W)(h:SL S W 249 (.slice (some ⟨b,off,none⟩) n cap) n)(hk:k<n):∃id l r lv m,W.cell? ⟨b,off+k*4,none⟩=some (.int .i64 id)/\W.cell? ⟨b,off+k*4+1,none⟩=some lv/\W.cell? ⟨b,off+k*4+2,none⟩=some (.int .i64 l)/\W.cell? ⟨b,off+k*4+3,none⟩=some (.int .i64 r)/\fits id/\fits l/\fits r/\SL S W 245 lv m/\m<=100:=by
 obtain⟨u0,c0,h0⟩:=h.cell hT a9b hk 0 .int rfl;obtain⟨u1,c1,h1⟩:=h.cell hT a9b hk 1 (.sl 245) rfl;obtain⟨u2,c2,h2⟩:=h.cell hT a9b hk 2 .int rfl;obtain⟨u3,c3,h3⟩:=h.cell hT a9b hk 3 .int rfl;exact ygl
theorem SL.spot (hT:TW S W)(h:SL S W 245 (.slice (some ⟨b,off,none⟩) n cap) n)(hk:k<n):∃x y d,W.cell? ⟨b,off+k*3,none⟩=some (.int .i64 x)/\W.cell? ⟨b,off+k*3+1,none⟩=some (.int .i64 y)/\W.cell? ⟨b,off+k*3+2,none⟩=some (.int .i64 d)/\fits x/\fits y/\fits d:=by
 obtain⟨u0,c0,h0⟩:=h.cell hT b6v hk 0 .int rfl;obtain⟨u1,c1,h1⟩:=h.cell hT b6v hk 1 .int rfl;obtain⟨u2,c2,h2⟩:=h.cell hT b6v hk 2 .int rfl;obtain⟨x,rfl,f0⟩:=h0.i rfl;obtain⟨y,rfl,f1⟩:=h1.i rfl;obtain⟨d,rfl,f2⟩:=h2.i rfl;exact⟨x,y,d,c0,c1,c2,f0,f1,f2⟩
structure PP (w:Wd)(B3:Nat)(px py:Int)(W:Wd):Prop where
 bel:Below w.heap.size w W
 p:Blk W B3 #[.int .i64 px,.int .i64 py] 26
theorem PP.up (h:PP w B3 px py W)(hb:Below W.heap.size W W'):PP w B3 px py W':=⟨h.bel.trans (hb.mono h.bel.size),h.p.below hb h.p.lt⟩
theorem PP.old (h:PP w B3 px py W){ad:Addr}(hc:w.cell? ad=some v):W.cell? ad=some v:=(h.bel.cell (World.block_lt_of_cell? _ _ hc)).trans hc
abbrev a4h (y0 y1 y2 y3 y4 y5 y6:Int):Array Value:= #[.int .i64 y0,.int .i64 y1,.int .i64 y2,.int .i64 y3,.int .i64 y4,.int .i64 y5,.int .i64 y6]
structure PQ (w:Wd)(B3:Nat)(px py:Int)(B9:Nat)(W:Wd):Prop where
 pp:PP w B3 px py W
 q:∃y0 y1 y2 y3 y4 y5 y6,Blk W B9 (a4h y0 y1 y2 y3 y4 y5 y6) 251/\fits y1/\fits y2
 l9:w.heap.size<=B9
 d:B3≠B9
theorem PQ.up {B9:Nat}(h:PQ w B3 px py B9 W)(hb:Below W.heap.size W W'):PQ w B3 px py B9 W':=by
 obtain⟨y0,y1,y2,y3,y4,y5,y6,k,f1,f2⟩:=h.q;exact⟨h.pp.up hb,⟨y0,y1,y2,y3,y4,y5,y6,k.below hb k.lt,f1,f2⟩,h.l9,h.d⟩
theorem d0o {B:Nat}{y0 y1 y2 y3 y4 y5 y6:Int}(h:Blk W B (a4h y0 y1 y2 y3 y4 y5 y6) t):(W.cell? ⟨B,0,none⟩=some (.int .i64 y0)/\W.cell? ⟨B,1,none⟩=some (.int .i64 y1)/\W.cell? ⟨B,2,none⟩=some (.int .i64 y2)/\W.cell? ⟨B,3,none⟩=some (.int .i64 y3)/\W.cell? ⟨B,4,none⟩=some (.int .i64 y4)/\W.cell? ⟨B,5,none⟩=some (.int .i64 y5)/\W.cell? ⟨B,6,none⟩=some (.int .i64 y6)) /\
 W.frozen? ⟨B,0,none⟩=false/\W.frozen? ⟨B,1,none⟩=false/\W.frozen? ⟨B,2,none⟩=false/\W.frozen? ⟨B,3,none⟩=false/\W.frozen? ⟨B,4,none⟩=false/\W.frozen? ⟨B,5,none⟩=false/\W.frozen? ⟨B,6,none⟩=false :=
 ⟨⟨h.cell 0,h.cell 1,h.cell 2,h.cell 3,h.cell 4,h.cell 5,h.cell 6⟩,h.frozen 0,h.frozen 1,h.frozen 2,h.frozen 3,h.frozen 4,h.frozen 5,h.frozen 6⟩
structure AtW (wr:Wd)(P Q b off k:Nat)(ax ay ad bx by_ bd l r:Int)(W:Wd):Prop where
 bel:Below wr.heap.size wr W
 p:Blk W P #[.int .i64 ax,.int .i64 ay,.int .i64 ad] 245
 q:Blk W Q #[.int .i64 bx,.int .i64 by_,.int .i64 bd] 245
 c2:W.cell? ⟨b,off+k*4+2,none⟩=some (.int .i64 l)
 c3:W.cell? ⟨b,off+k*4+3,none⟩=some (.int .i64 r)
theorem AtW.up {P Q:Nat}(h:AtW wr P Q b off k ax ay ad bx by_ bd l r W)(hb:Below W.heap.size W W'):AtW wr P Q b off k ax ay ad bx by_ bd l r W' :=
 ⟨h.bel.trans (hb.mono h.bel.size),h.p.below hb h.p.lt,h.q.below hb h.q.lt,(hb.cell (World.block_lt_of_cell? _ _ h.c2)).trans h.c2,(hb.cell (World.block_lt_of_cell? _ _ h.c3)).trans h.c3⟩
end
end Go.Proofs.YtfocdbjceedagaaGreatDoor
