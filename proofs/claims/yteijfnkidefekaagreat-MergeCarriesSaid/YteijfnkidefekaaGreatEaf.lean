/-
  Parts.
-/
import Derived.Test.YteijfnkidefekaaGreatEad
set_option linter.unusedVariables false
set_option linter.unusedSimpArgs false
set_option linter.unusedSectionVars false
set_option maxHeartbeats 4000000
set_option maxRecDepth 100000
namespace Go.Proofs.YteijfnkidefekaaGreat
open Tryz
section
open Go.RowKit Go.Shelf
abbrev noB :BS:=λ_=>False
theorem Ev.more {X Y S S':BS}{W W':Wd}(h:Ev X S W S' W')(LP:∀b,X b->Y b):Ev Y S W S' W' :=
 ⟨h.sub,h.new,h.os,h.tape,h.output,h.size,λb hb hn hy=>h.rest b hb hn (λhx=>hy (LP b hx)),h.shape,h.ok⟩
theorem Ev.any {Y S S':BS}{W W':Wd}(h:Ev noB S W S' W'):Ev Y S W S' W':=h.more (λ_ h=>h.elim)
theorem Ev.own {X S S1:BS}{W W1 W2:Wd}{row:Option Nat}(h:Ev X S W S1 W1)(hg:W1.grownBy W2 row)(hr:∀r,row=some r->¬S1 r/\W.heap.size<=r):Ev X S W S1 W2:=by
 have h2:TW S1 W2:=h.ok.of_same (λb hb=>hg.block b (h.ok.lt hb) (λe=>(hr b e.symm).1 hb));exact⟨h.sub,h.new,hg.os.trans h.os,hg.tape.trans h.tape,hg.output.trans h.output,Nat.le_trans h.size hg.size,λb hb hn hx=>(hg.block b (Nat.lt_of_lt_of_le hb h.size) (λe=>by have:=(hr b e.symm).2;omega)).trans (h.rest b hb hn hx),λb c e hb hc=>by
  obtain⟨c',cB,hz⟩:=h.shape b c e hb hc;exact⟨c',(hg.block b cB.lt (λe=>(hr b e.symm).1 (h.sub b hb))).trans cB,hz⟩,h2⟩
structure ST (n₀ D:Nat)(sv:Vu)(xs:List Int)(S0:BS)(W0:Wd)(S:BS)(W:Wd):Prop where
 td:TD S n₀ D sv xs W
 ev:Ev (a7d D) S0 W0 S W
 lo:n₀<=W0.heap.size
theorem a0u (W:Wd)(b i:Nat)(v:Vu):W.grownBy (W.setCell ⟨b,i,none⟩ v) (some b) :=
 ⟨rfl,rfl,rfl,by simp,λk hk an=>Below.heap_setCell _ _ _ _ (λe=>an (by rw[e]))⟩
section
variable {n₀ D:Nat}{sv:Vu}{xs:List Int}{S0 S S':BS}{W0 W W':Wd}
theorem TD.st (h:TD S n₀ D sv xs W):ST n₀ D sv xs S W S W:=⟨h,Ev.refl h.tw,by have:=h.lt;have:=h.le;omega⟩
theorem ST.evo (h:ST n₀ D sv xs S0 W0 S W)(he:Ev noB S W S' W'):ST n₀ D sv xs S0 W0 S' W':=⟨h.td.ev he (λ_ h=>h.elim),h.ev.trans he.any,h.lo⟩
theorem ST.up (h:ST n₀ D sv xs S0 W0 S W)(hb:Below W.heap.size W W'):ST n₀ D sv xs S0 W0 S W':=h.evo (Ev.of_below h.td.tw hb)
theorem ST.alloc (h:ST n₀ D sv xs S0 W0 S W)(o:Obj):ST n₀ D sv xs S0 W0 S (W.alloc o):=h.up ((zR _ _).alloc (yR _) _)
theorem ST.allocT (h:ST n₀ D sv xs S0 W0 S W){c:Array Value}{e:Td}(hc:TB S W e c):ST n₀ D sv xs S0 W0 (λb=>S b\/b=W.heap.size) (W.alloc (.cells c e)):=h.evo (Ev.alloc h.td.tw hc)
theorem ST.call (h:ST n₀ D sv xs S0 W0 S W)(m:Int)(dy:1<=m)(b8:m<=4611686018427387904) :
 Calls prog 43 #[.pointer (some ⟨D,0,none⟩),.int .i64 m] W λe W'=>∃v,e= .returned (.int .i64 v)/\0<=v/\v<m/\ST n₀ D sv xs S0 W0 S W'/\W.grownBy W' (some D)/\Ev (a7d D) S W S W':=by
 refine(h.td.call m dy b8).mono ?_;rintro e W'⟨v,rfl,h0,h1,h2,hg,h3⟩;exact⟨v,rfl,h0,h1,⟨h2,h.ev.trans h3,h.lo⟩,hg,h3⟩
theorem ST.then_ (h:ST n₀ D sv xs S0 W0 S W)(h1:TD S' n₀ D sv xs W')(h2:Ev (a7d D) S W S' W'):ST n₀ D sv xs S0 W0 S' W':=⟨h1,h.ev.trans h2,h.lo⟩
theorem ST.own (h:ST n₀ D sv xs S0 W0 S W){r:Nat}(hr:W0.heap.size<=r)(hS:¬S r)(hD:r≠D)(i:Nat)(v:Vu):ST n₀ D sv xs S0 W0 S (W.setCell ⟨r,i,none⟩ v):=by
 have hg:=a0u W r i v;have ab:=h.td.lt;obtain⟨j,hj,hb⟩:=h.td.box;have he:=h.ev.own hg (λq e=>by cases e;exact⟨hS,hr⟩);have o9:=h.lo;exact⟨⟨he.ok,⟨j,hj,hb.kept hg (λe=>hD (Option.some.inj e))⟩,h.td.ints.below (Below.of_grown hg (by have:=h.td.le;omega) (λq e=>by cases e;omega)),h.td.le,h.td.len,h.td.low,h.td.not⟩,he,h.lo⟩
theorem ST.blk0 (h:ST n₀ D sv xs S0 W0 S W){b:Nat}{c:Array Value}{t:Td}(hb:Blk W0 b c t)(hn:¬S0 b)(hD:b≠D):Blk W b c t/\¬S b:=⟨h.ev.blk hb hn hD,h.ev.not hb.lt hn⟩
end
theorem pt2 {W:Wd}{b:Nat}{x y:Int}{t:Td}(h:Blk W b #[.int .i64 x,.int .i64 y] t):W.cell? ⟨b,0,none⟩=some (.int .i64 x)/\W.cell? ⟨b,1,none⟩=some (.int .i64 y)/\W.frozen? ⟨b,0,none⟩=false/\W.frozen? ⟨b,1,none⟩=false:=⟨h.cell 0,h.cell 1,h.frozen 0,h.frozen 1⟩
theorem a0x {S:BS}{W:Wd}(hT:TW S W){ops:Array Oper}{rest:List Oper}{o:Oper}{a:Act}{Q:Exit->Act->World->Prop}(bP:o.guard=none)(sO xO:Operand)(t:Td)(ho:o.op= .call { callee:= .builtin .append,args:= #[sO,xO],argTypes:= #[t,t] })
 {e:Td} {s:Nat} (ht:prog.underlying t=some (.slice e)) (he:ET e s) {v:Vu} {n:Nat} (bj:a.eval sO=v) (hv:SL S W e v n) {H:Nat} (aO:a.eval xO= .slice (some ⟨H,0,none⟩) 1 1) (hH:W.heap.size=H) {c:Array Value} (hc:TB S W e c) (lq:c.size=s) (hl:n<=1000)
 (h:∀v' S' w',SL S' w' e v' (n+1)->Ev noB S W S' w'->wpList prog ops Q rest (a.put o.dst v') w'):wpList prog ops Q (o::rest) a (W.alloc (.cells c e)):=by
 subst hH;have hA:=Ev.alloc (X:=noB) hT hc;refine a1h (X:=noB) hA.ok bP sO xO t ho ht he bj (hA.sl hv) aO (SL.blk (.inr rfl) (Blk.new W c e) (by rw[he.size,lq,Nat.one_mul];exact yR _)) xM λv' S' w' h1 h2=>h v' S' w' h1 (hA.trans h2)
theorem c8q (ax ay bx by_:Int)(w:Wd):Calls prog 112 #[.agg #[.int .i64 ax,.int .i64 ay],.agg #[.int .i64 bx,.int .i64 by_]] w λe w'=>(∃x y,e= .returned (.agg #[.int .i64 x,.int .i64 y])/\a0l x/\a0l y)/\Below w.heap.size w w':=by
 go_enter func112,ntmps112;go_wp2_with fail;have hk:=Blk.new ((w.alloc (.cells #[.int .i64 ax,.int .i64 ay] 41)).alloc (.cells #[.int .i64 bx,.int .i64 by_] 41)) #[.int .i64 (wrap64 (ax-bx)),.int .i64 (wrap64 (ay-by_))] 41;simp only[World.size_alloc]at hk;exact yho
theorem Shp.set {S:BS}{W:Wd}{B:Nat}(h:¬S B)(i:Nat)(v:Vu):Shp S W (W.setCell ⟨B,i,none⟩ v):=λb c e hb hc=>⟨c,hc.other (λq=>h (by subst q;exact hb)) i v,rfl⟩
structure WG7 (wr:Wd)(B3 BU:Nat)(ax ay ux uy:Int)(W:Wd):Prop where
 b:Below wr.heap.size wr W
 a:Blk W B3 #[.int .i64 ax,.int .i64 ay] 41
 u:Blk W BU #[.int .i64 ux,.int .i64 uy] 41
theorem WG7.up {wr:Wd}{B3 BU:Nat}{ax ay ux uy:Int}{W W':Wd}(h:WG7 wr B3 BU ax ay ux uy W)(hb:Below W.heap.size W W'):WG7 wr B3 BU ax ay ux uy W':=⟨h.b.trans (hb.mono h.b.size),h.a.below hb h.a.lt,h.u.below hb h.u.lt⟩
def FWg (wr:Wd)(B3 BU k M:Nat)(ax ay ux uy:Int)(i:Nat)(v:Vu)(w:Wd):Prop :=
 match i with
 |0=>v= .pointer (some ⟨B3,0,none⟩)
 |1=>v= .int .i64 ax
 |2=>v= .pointer (some ⟨BU,0,none⟩)
 |3=>v= .int .i64 ux
 |4=>v= .int .i64 (k:Nat)
 |5=>∃x,v= .int .i64 x/\a0l x
 |6=>v= .int .i64 (M:Nat)
 |7=>v= .int .i64 ((M:Nat)+1)
 |8=>∃x,v= .int .i64 x/\a0l x
 |9=>∃x,v= .int .i64 x/\a0l x
 |10=>v= .pointer (some ⟨B3,1,none⟩)
 |11=>v= .int .i64 ay
 |12=>v= .pointer (some ⟨BU,1,none⟩)
 |13=>v= .int .i64 uy
 |14=>v= .int .i64 (k:Nat)
 |15=>∃x,v= .int .i64 x/\a0l x
 |16=>v= .int .i64 (M:Nat)
 |17=>v= .int .i64 ((M:Nat)+1)
 |18=>∃x,v= .int .i64 x/\a0l x
 |19=>∃x,v= .int .i64 x/\a0l x
 |20=>∃X Y,v= .agg #[.int .i64 X,.int .i64 Y]/\a0l X/\a0l Y
 |21=>∃B,v= .pointer (some ⟨B,0,none⟩)/\wr.heap.size<=B/\Blk w B #[.int .i64 0,.int .i64 0] 41
 |_=>False
theorem FWg.kept {wr:Wd}{B3 BU k M:Nat}{ax ay ux uy:Int}{i:Nat}{v:Vu}{w w':Wd}(h:FWg wr B3 BU k M ax ay ux uy i v w)(hg:Below w.heap.size w w'):FWg wr B3 BU k M ax ay ux uy i v w':=by
 unfold FWg at *;exact yin
theorem b7v (n₀ D:Nat)(sv:Vu)(xs:List Int)(S:BS)(w:Wd)(h:TD S n₀ D sv xs w)(ax ay bx by_:Int)(fa:a0l ax)(fb:a0l ay)(fc:a0l bx)(fd:a0l by_) :
 Calls prog 80 #[.agg #[.int .i64 ax,.int .i64 ay],.agg #[.int .i64 bx,.int .i64 by_],.pointer (some ⟨D,0,none⟩)] w λe w'=>∃S' v n,e= .returned v/\SL S' w' 41 v n/\n<=6/\TD S' n₀ D sv xs w'/\Ev (a7d D) S w S' w':=by
 have ab:=λb hb=>h.tw.lt (b:=b) hb
 have mz:=h.lt;go_enter func80,ntmps80;go_upto_region 2 with fail;refine a0n (λW1 ao=> ?_);have bU:ST n₀ D sv xs S w (λb=>S b\/b=w.heap.size+1+1) W1:=by
  have h1:=((h.st.alloc (.cells #[.int .i64 ax,.int .i64 ay] 41)).alloc (.cells #[.int .i64 bx,.int .i64 by_] 41)).allocT (a3x fa fb);exact yje
 have kC:Blk W1 (w.heap.size+1+1) #[.int .i64 ax,.int .i64 ay] 41:=by
  have h1:=Blk.new ((w.alloc (.cells #[.int .i64 ax,.int .i64 ay] 41)).alloc (.cells #[.int .i64 bx,.int .i64 by_] 41)) #[.int .i64 ax,.int .i64 ay] 41;exact yje
 have kA:Blk W1 w.heap.size #[.int .i64 ax,.int .i64 ay] 41:=by
  rw[ao];exact((Blk.new w _ _).alloc _).alloc _
 have kB:Blk W1 (w.heap.size+1) #[.int .i64 bx,.int .i64 by_] 41:=by
  have h1:=(Blk.new (w.alloc (.cells #[.int .i64 ax,.int .i64 ay] 41)) #[.int .i64 bx,.int .i64 by_] 41).alloc (.cells #[.int .i64 ax,.int .i64 ay] 41);exact yje
 have A3:SL (λb=>S b\/b=w.heap.size+1+1) W1 41 (.slice (some ⟨w.heap.size+1+1,0,none⟩) 1 1) 1:=SL.blk (.inr rfl) kC (by show 1*2<=2;omega);clear ao kC;obtain⟨S1,eA⟩:∃S1:BS,(λb=>S b\/b=w.heap.size+1+1)=S1:=⟨_,rfl⟩;have nA:¬S1 w.heap.size:=by
  rw[<-eA];rintro(h|h)
  ·have:=ab _ h;omega
  ·omega
 have nB:¬S1 (w.heap.size+1):=by
  rw[<-eA];rintro(h|h)
  ·have:=ab _ h;omega
  ·omega
 have dA:w.heap.size≠D:=xM;have dB:w.heap.size+1≠D:=xM;rw[eA]at bU A3;clear eA ab mz;obtain⟨B4,jc⟩:=zE (w.heap.size+1);obtain⟨B5,lH⟩:=zE (w.heap.size+1+1);obtain⟨B3,dF⟩:=zE w.heap.size;rw[jc]at kB nB dB;rw[lH]at A3;rw[dF]at kA nA dA;rw[lH,jc,dF];clear lH jc dF;go_upto_region 4 with(first
  |(go_at_call 43;refine(bU.call 4 xM xM).mono ?_;rintro e W2⟨many,rfl,m0,m1,cX,fM,gw⟩;have A4:=kA.kept fM (λe=>dA (Option.some.inj e).symm);have A5:=kB.kept fM (λe=>dB (Option.some.inj e).symm);obtain⟨a0,a1,-,-⟩:=pt2 A4;obtain⟨b0,b1,-,-⟩:=pt2 A5)
  |(go_at_call 112;refine(c8q _ _ _ _ _).mono ?_;rintro e W3⟨⟨ux,uy,rfl,fu,fv⟩,b9⟩))
 have Dh:=(cX.up b9).td.tw;have mA:=(cX.up b9).alloc (.cells #[.int .i64 ux,.int .i64 uy] 41);have kU:=Blk.new W3 #[.int .i64 ux,.int .i64 uy] 41;have Iq:=(A4.below b9 A4.lt).alloc (.cells #[.int .i64 ux,.int .i64 uy] 41);have Ir:=(A5.below b9 A5.lt).alloc (.cells #[.int .i64 ux,.int .i64 uy] 41);have nU:¬S1 W3.heap.size:=λhU=>Nat.lt_irrefl _ (Dh.lt hU)
 have dU:W3.heap.size≠D:=λe=>by have:=(cX.up b9).td.lt;omega
 have sU:=(Ev.of_below (X:=noB) Dh ((zR _ _).alloc (yR _) (.cells #[.int .i64 ux,.int .i64 uy] 41))).sl ((Ev.of_below (X:=noB) cX.td.tw b9).sl (gw.sl A3));obtain⟨BU,Di⟩:=zE W3.heap.size;obtain⟨Wb,Dj⟩:=zE (W3.alloc (.cells #[.int .i64 ux,.int .i64 uy] 41));rw[Dj]at mA kU Iq Ir sU;rw[Di]at kU nU dU;rw[Di,Dj];clear Di Dj Dh kA kB A4 A5 a0 a1 b0 b1 bU A3 cX fM gw b9;obtain⟨v1,rA⟩:=zE (Value.slice (some ⟨B5,0,none⟩) 1 1);rw[rA]at sU;rw[rA];clear rA;obtain⟨M,rfl⟩:∃M:Nat,many=M:=⟨many.toNat,xM⟩;go_wp2_with fail;go_loopw [7,10] (λv kk wr=>∃(k:Nat) (S':BS) (n:Nat),1<=k/\k<=M+1/\kk= .int .i64 (k:Nat)/\n<=k/\SL S' wr 41 v n/\ST n₀ D sv xs S1 Wb S' wr) (λ_ kk _=>M+1-(intOf kk).toNat)
 case atStart=>exact⟨1,S1,1,xM,xM,rfl,xM,sU,mA.td.st⟩
 case round =>
  obtain⟨k,S',n,CW,Is,rfl,hn,cf,ai⟩:=hrel;obtain⟨kA,PU⟩:=ai.blk0 Iq nA dA;obtain⟨kB,PV⟩:=ai.blk0 Ir nB dB;obtain⟨xA,PW⟩:=ai.blk0 kU nU dU;by_cases ab:k<=M
  ·have aj:(k:Int)<=(M:Int):=xM
   have nd:¬(M:Int)+1=0:=xM;have LQ:IntKind.i64.wrap ((M:Int)+1)=M+1:=a0p xM xM;obtain⟨a0,a1,-,-⟩:=pt2 kA;obtain⟨b0,b1,-,-⟩:=pt2 kB;obtain⟨u0,u1,-,-⟩:=pt2 xA;go_upto_region 7 with fail;refine Go.wp_region_rel 22 zM zM (λ_ W=>WG7 wr B3 BU ax ay ux uy W) (λw w'=>Below w.heap.size w w') (FWg wr B3 BU k M ax ay ux uy) (λ_ _ _ _ h g=>h.kept g) ⟨(zR _ _).drew,kA.drew,xA.drew⟩ ?_ ?_
   ·clear ai cf kA kB xA
    intro i o hi ho c bb W hc hM hA hD K hK;match i,hi,ho with
    |0,_,ho =>
     cases ho;have f3:=a0a (v:= .pointer (some ⟨B3,0,none⟩)) (hA.at_ (k:=3) zM);go_simp;exact hK (.pointer (some ⟨B3,0,none⟩)) W rfl (zR _ _) hM
    |1,_,ho =>
     cases ho;have f25:=a0a (v:= .pointer (some ⟨B3,0,none⟩)) (a0b hD 0 25 zM rfl rfl);have z0:W.cell? ⟨B3,0,none⟩=some (.int .i64 ax):=hM.a.cell 0;go_simp;exact hK (.int .i64 ax) W rfl (zR _ _) hM
    |2,_,ho =>
     cases ho;have f9:=a0a (v:= .pointer (some ⟨BU,0,none⟩)) (hA.at_ (k:=9) zM);go_simp;exact hK (.pointer (some ⟨BU,0,none⟩)) W rfl (zR _ _) hM
    |3,_,ho =>
     cases ho;have f27:=a0a (v:= .pointer (some ⟨BU,0,none⟩)) (a0b hD 2 27 zM rfl rfl);have z0:W.cell? ⟨BU,0,none⟩=some (.int .i64 ux):=hM.u.cell 0;go_simp;exact hK (.int .i64 ux) W rfl (zR _ _) hM
    |4,_,ho =>
     exact yea
    |5,_,ho =>
     cases ho;have f28:=a0a (v:= .int .i64 ux) (a0b hD 3 28 zM rfl rfl);have f29:=a0a (v:= .int .i64 (k:Nat)) (a0b hD 4 29 zM rfl rfl);exact yby
    |6,_,ho =>
     exact yjm
    |7,_,ho =>
     cases ho;have f31:=a0a (v:= .int .i64 (M:Nat)) (a0b hD 6 31 zM rfl rfl);exact ygd
    |8,_,ho =>
     cases ho;have f30:=a0b hD 5 30 zM rfl rfl;obtain⟨PX,LR,PY⟩:=f30;have f30:=a0a LR;have f32:=a0a (v:= .int .i64 ((M:Nat)+1)) (a0b hD 7 32 zM rfl rfl);exact yby
    |9,_,ho =>
     cases ho;have f26:=a0a (v:= .int .i64 ax) (a0b hD 1 26 zM rfl rfl);have f33:=a0b hD 8 33 zM rfl rfl;obtain⟨PZ,LS,vO⟩:=f33;have f33:=a0a LS;exact yby
    |10,_,ho =>
     cases ho;have f3:=a0a (v:= .pointer (some ⟨B3,0,none⟩)) (hA.at_ (k:=3) zM);go_simp;exact hK (.pointer (some ⟨B3,1,none⟩)) W rfl (zR _ _) hM
    |11,_,ho =>
     cases ho;have f35:=a0a (v:= .pointer (some ⟨B3,1,none⟩)) (a0b hD 10 35 zM rfl rfl);have z0:W.cell? ⟨B3,1,none⟩=some (.int .i64 ay):=hM.a.cell 1;go_simp;exact hK (.int .i64 ay) W rfl (zR _ _) hM
    |12,_,ho =>
     cases ho;have f9:=a0a (v:= .pointer (some ⟨BU,0,none⟩)) (hA.at_ (k:=9) zM);go_simp;exact hK (.pointer (some ⟨BU,1,none⟩)) W rfl (zR _ _) hM
    |13,_,ho =>
     cases ho;have f37:=a0a (v:= .pointer (some ⟨BU,1,none⟩)) (a0b hD 12 37 zM rfl rfl);have z0:W.cell? ⟨BU,1,none⟩=some (.int .i64 uy):=hM.u.cell 1;go_simp;exact hK (.int .i64 uy) W rfl (zR _ _) hM
    |14,_,ho =>
     exact yea
    |15,_,ho =>
     cases ho;have f38:=a0a (v:= .int .i64 uy) (a0b hD 13 38 zM rfl rfl);have f39:=a0a (v:= .int .i64 (k:Nat)) (a0b hD 14 39 zM rfl rfl);exact yby
    |16,_,ho =>
     exact yjm
    |17,_,ho =>
     cases ho;have f41:=a0a (v:= .int .i64 (M:Nat)) (a0b hD 16 41 zM rfl rfl);exact ygd
    |18,_,ho =>
     cases ho;have f40:=a0b hD 15 40 zM rfl rfl;obtain⟨P1,LU,vP⟩:=f40;have f40:=a0a LU;have f42:=a0a (v:= .int .i64 ((M:Nat)+1)) (a0b hD 17 42 zM rfl rfl);exact yby
    |19,_,ho =>
     cases ho;have f36:=a0a (v:= .int .i64 ay) (a0b hD 11 36 zM rfl rfl);have f43:=a0b hD 18 43 zM rfl rfl;obtain⟨P3,LV,vt⟩:=f43;have f43:=a0a LV;exact yby
    |20,_,ho =>
     cases ho;have f34:=a0b hD 9 34 zM rfl rfl;obtain⟨P4,LW,A6⟩:=f34;have f34:=a0a LW;have f44:=a0b hD 19 44 zM rfl rfl;obtain⟨P5,LX,LY⟩:=f44;have f44:=a0a LX;go_simp;exact hK _ W ⟨_,_,rfl,A6,LY⟩ (zR _ _) hM
    |21,_,ho =>
     exact yfv
    |i+22,hi,_=>exact absurd hi xM
   ·intro bb W hM hA aa
    obtain⟨X,Y,xB,fX,fY⟩:=(show ∃X Y,bb.eval (.tmp 45)= .agg #[.int .i64 X,.int .i64 Y]/\a0l X/\a0l Y from aa 20 xM _ _ rfl rfl);obtain⟨B,xC,lI,rB⟩:=(show ∃B,bb.eval (.tmp 11)= .pointer (some ⟨B,0,none⟩)/\wr.heap.size<=B/\Blk W B #[.int .i64 0,.int .i64 0] 41 from aa 21 xM _ _ rfl rfl);have az:=hA.frame (rT 11 (rF 1 (rT 13 (rF 21 (rT 30 ([])))))) _ rfl zM;clear aa hA;obtain⟨f,hf⟩:=zDt bb;have xD:f 45= .agg #[.int .i64 X,.int .i64 Y]:=by rw[<-hf,<-xB];rfl
    have g11:f 11= .pointer (some ⟨B,0,none⟩):=by rw[<-hf,<-xC];rfl
    rw[hf]at az;clear hf xB xC;subst az;simp only[rT,rF,a1j,xD,g11,Nat.reduceAdd];clear xD g11;simp only[zU];have pO:=rB.frozen 0;have pP:=rB.frozen 1;obtain⟨q0,q1,-,-⟩:=pt2 rB;go_upto_region 8 with fail;refine a0n (λW5 bL=> ?_);have vQ:Below wr.heap.size wr W5:=by
     rw[bL];exact(hM.b.setCell (p:=⟨B,0,none⟩) lI _).setCell (p:=⟨B,1,none⟩) lI _
    have kP:Blk W5 B #[.int .i64 X,.int .i64 Y] 41:=by
     have h9:=(rB.set 0 (.int .i64 X)).set 1 (.int .i64 Y);rw[bL];simpa using h9
    clear bL q0 q1 pO pP rB hM a0 a1 b0 b1;have xE:=ai.up vQ;have nP:¬S' B:=λhB=>by have:=ai.td.tw.lt hB;omega
    have dP:B≠D:=λe=>by have:=ai.td.lt;omega
    have It:=xA.below vQ xA.lt;have xF:=(Ev.of_below (X:=noB) ai.td.tw vQ).sl cf;have LZ:Wb.heap.size<=B:=Nat.le_trans ai.ev.size lI;clear u0 u1 cf vQ ai;have iG:¬IntKind.i64.wrap (1+IntKind.i64.wrap ((M:Int).tdiv 2))=0:=by
     rw[Int.tdiv_eq_ediv_of_nonneg xM,a0p (x:=(M:Int) / 2) xM xM,a0p xM xM];omega
    have gY:(M:Int).tdiv 2=(M:Int) / 2:=Int.tdiv_eq_ediv_of_nonneg xM;have oX:0<=(M:Int) / 2/\(M:Int) / 2<=2:=xM;obtain⟨Dk,Dl⟩:=zE ((M:Int).tdiv 2);rw[<-gY]at oX;rw[Dl]at oX iG;obtain⟨L0,L1⟩:=oX;have Iu:¬1+Dk=0:=xM;clear gY;by_cases P6:uy<ux
    all_goals
     go_upto_region 12 with(first
      |(go_at_call 43;refine(xE.call 21 xM xM).mono ?_;rintro e W6⟨dr,rfl,r0,r1,xG,sV,iA⟩;have A7:=kP.kept sV (λe=>dP (Option.some.inj e).symm);have Iv:=It.kept sV (λe=>dU (Option.some.inj e).symm);obtain⟨u0,u1,-,-⟩:=pt2 Iv;obtain⟨p0,p1,pO,pP⟩:=pt2 A7))
     refine a0n (λW7 lJ=> ?_);have xH:ST n₀ D sv xs S1 Wb S' W7:=by
      rw[lJ];exact xG.own LZ nP dP _ _
     have Dm:SL S' W7 41 u7 n:=by
      rw[lJ];exact SL.mono (iA.sl xF) (λ_ h=>h) (Shp.set nP _ _)
     obtain⟨X',Y',L2,L3,L4⟩:∃X' Y',a0l X'/\a0l Y'/\Blk W7 B #[.int .i64 X',.int .i64 Y'] 41:=by
      rw[lJ];first
       |exact⟨_,_,fX,a1a _,by simpa using A7.set 1 (.int .i64 (wrap64 (Y+(dr-10).tdiv (1+Dk))))⟩
       |exact⟨_,_,a1a _,fY,by simpa using A7.set 0 (.int .i64 (wrap64 (X+(dr-10).tdiv (1+Dk))))⟩
     obtain⟨p0,p1,-,-⟩:=pt2 L4;clear lJ xG A7 Iv u0 u1 kP It xE pO pP sV iA xF;go_wp2_with (first
      |(at_builtin;refine a0x xH.td.tw qM _ _ 44 qM underlying44 a1l qM Dm qM rfl (a3x L2 L3) rfl xM ?_;intro v9 S9 w9 aQ cg))
     go_roundw
     case rel=>exact⟨k+1,S9,n+1,xM,xM,by go_num,xM,aQ,xH.evo cg⟩
     case measure=>simp[intOf];omega
  ·obtain rfl:k=M+1:=xM
   have aT:¬((M:Int)+1<=(M:Int)):=xM;obtain⟨b0,b1,-,-⟩:=pt2 kB;go_wp2_with (first
    |(at_builtin;refine a0x ai.td.tw qM _ _ 44 qM underlying44 a1l qM cf qM rfl (a3x fc fd) rfl xM ?_;intro v9 S9 w9 aQ cg))
   go_ret;exact⟨S9,v9,rfl,n+1,aQ,xM,(ai.evo cg).td,(mA.then_ (ai.evo cg).td (ai.evo cg).ev).ev⟩
theorem Ev.adopt {X S0 S:BS}{W0 W:Wd}(h:Ev X S0 W0 S W){L:Nat}{c:Array Value}{e:Td}(hL:W0.heap.size<=L)(hb:Blk W L c e)(hc:TB S W e c):Ev X S0 W0 (λb=>S b\/b=L) W :=
 ⟨λb hb=> .inl (h.sub b hb),λb hb=>by
  rcases hb with hb|rfl
  ·exact h.new b hb
  ·exact .inr hL,h.os,h.tape,h.output,h.size,h.rest,h.shape,λb fw=>by
  rcases fw with fw|rfl
  ·obtain⟨c',e',h1,h2⟩:=h.ok b fw
   exact⟨c',e',h1,h2.mono (λ_ h=> .inl h) (Shp.refl _ _)⟩
  ·exact⟨c,e,hb,hc.mono (λ_ h=> .inl h) (Shp.refl _ _)⟩⟩
theorem SL.point {S:BS}{W:Wd}{b off n cap:Nat}(hT:TW S W)(h:SL S W 41 (.slice (some ⟨b,off,none⟩) n cap) n){k:Nat}(hk:k<n):∃x y,W.cell? ⟨b,off+k*2,none⟩=some (.int .i64 x)/\W.cell? ⟨b,off+k*2+1,none⟩=some (.int .i64 y)/\a0l x/\a0l y:=by
 obtain⟨u0,c0,h0⟩:=h.cell hT a1l hk 0 .int rfl;obtain⟨u1,c1,h1⟩:=h.cell hT a1l hk 1 .int rfl;obtain⟨x,rfl,fx⟩:=h0.i rfl;obtain⟨y,rfl,fy⟩:=h1.i rfl;exact⟨x,y,c0,c1,fx,fy⟩
abbrev edC (id:Int)(lv:Vu)(l r:Int):Array Value:= #[.int .i64 id,lv,.int .i64 l,.int .i64 r]
theorem ed4 {W:Wd}{B:Nat}{id l r:Int}{lv:Vu}{t:Td}(h:Blk W B (edC id lv l r) t):W.cell? ⟨B,0,none⟩=some (.int .i64 id)/\W.cell? ⟨B,1,none⟩=some lv/\W.cell? ⟨B,2,none⟩=some (.int .i64 l)/\W.cell? ⟨B,3,none⟩=some (.int .i64 r):=⟨h.cell 0,h.cell 1,h.cell 2,h.cell 3⟩
structure T3 (S0:BS)(W0:Wd)(BE:Nat)(cE:Array Value)(BR:Nat)(cR:Array Value)(BO:Nat)(cO:Array Value)(t:Td)(S:BS)(W:Wd):Prop where
 ev:Ev noB S0 W0 S W
 e:Blk W BE cE t
 r:Blk W BR cR t
 o:Blk W BO cO t
 ne:¬S BE
 nr:¬S BR
 no:¬S BO
 le:W0.heap.size<=BE
 lr:W0.heap.size<=BR
 lo:W0.heap.size<=BO
 d:BE≠BO
 dr:BR≠BO
section
variable {S0 S S':BS}{W0 W W':Wd}{BE BR BO:Nat}{cE cR cO:Array Value}{t:Td}
theorem T3.evo (h:T3 S0 W0 BE cE BR cR BO cO t S W)(he:Ev noB S W S' W'):T3 S0 W0 BE cE BR cR BO cO t S' W':=⟨h.ev.trans he,he.blk h.e h.ne (λh=>h),he.blk h.r h.nr (λh=>h),he.blk h.o h.no (λh=>h),he.not h.e.lt h.ne,he.not h.r.lt h.nr,he.not h.o.lt h.no,h.le,h.lr,h.lo,h.d,h.dr⟩
theorem T3.set (h:T3 S0 W0 BE cE BR cR BO cO t S W)(i:Nat)(v:Vu):T3 S0 W0 BE cE BR cR BO (cO.setIfInBounds i v) t S (W.setCell ⟨BO,i,none⟩ v) :=
 ⟨h.ev.own (a0u W BO i v) (λr e=>by cases e;exact⟨h.no,h.lo⟩),h.e.other h.d i v,h.r.other h.dr i v,h.o.set i v,h.ne,h.nr,h.no,h.le,h.lr,h.lo,h.d,h.dr⟩
end
theorem T3.done {S0 S:BS}{W0 W:Wd}{BE BR BO:Nat}{cE cO:Array Value}{t:Td}{a b c d:Vu}(h:T3 S0 W0 BE cE BR #[a,b,c,d] BO cO t S W)(x y z u:Vu) :
 Ev noB S0 W0 S ((((W.setCell ⟨BR,0,none⟩ x).setCell ⟨BR,1,none⟩ y).setCell ⟨BR,2,none⟩ z).setCell ⟨BR,3,none⟩ u)/\Blk ((((W.setCell ⟨BR,0,none⟩ x).setCell ⟨BR,1,none⟩ y).setCell ⟨BR,2,none⟩ z).setCell ⟨BR,3,none⟩ u) BR #[x,y,z,u] t /\
  Shp S W ((((W.setCell ⟨BR,0,none⟩ x).setCell ⟨BR,1,none⟩ y).setCell ⟨BR,2,none⟩ z).setCell ⟨BR,3,none⟩ u):=by
 have hr:∀r,some BR=some r->¬S r/\W0.heap.size<=r:=λr e=>by cases e;exact⟨h.nr,h.lr⟩
 refine⟨(((h.ev.own (a0u _ BR 0 x) hr).own (a0u _ BR 1 y) hr).own (a0u _ BR 2 z) hr).own (a0u _ BR 3 u) hr,?_,?_⟩
 ·simpa using (((h.r.set 0 x).set 1 y).set 2 z).set 3 u
 ·exact(((Shp.set h.nr 0 x).trans (Shp.set h.nr 1 y) (λ_ h=>h)).trans (Shp.set h.nr 2 z) (λ_ h=>h)).trans (Shp.set h.nr 3 u) (λ_ h=>h)
structure TuI (wr:Wd)(BE BO b off q:Nat)(id l r:Int)(lv ov:Vu)(x y:Int)(W:Wd):Prop where
 bel:Below wr.heap.size wr W
 e:Blk W BE (edC id lv l r) 71
 o:Blk W BO (edC id ov r l) 71
 x:W.cell? ⟨b,off+q*2,none⟩=some (.int .i64 x)
 y:W.cell? ⟨b,off+q*2+1,none⟩=some (.int .i64 y)
theorem TuI.up {wr W W':Wd}{BE BO b off q:Nat}{id l r:Int}{lv ov:Vu}{x y:Int}(h:TuI wr BE BO b off q id l r lv ov x y W)(hb:Below W.heap.size W W'):TuI wr BE BO b off q id l r lv ov x y W' :=
 ⟨h.bel.trans (hb.mono h.bel.size),h.e.below hb h.e.lt,h.o.below hb h.o.lt,(hb.cell (p:=⟨b,off+q*2,none⟩) (World.block_lt_of_cell? _ _ h.x)).trans h.x,(hb.cell (p:=⟨b,off+q*2+1,none⟩) (World.block_lt_of_cell? _ _ h.y)).trans h.y⟩
def FTu (wr:Wd)(BE BO b off q n ak:Nat)(ov:Vu)(x y:Int)(i:Nat)(v:Vu)(w:Wd):Prop :=
 match i with
 |0=>v= .pointer (some ⟨BO,1,none⟩)
 |1=>v=ov
 |2=>v= .pointer (some ⟨BE,1,none⟩)
 |3=>v= .slice (some ⟨b,off,none⟩) n ak
 |4=>v= .int .i64 (q:Nat)
 |5=>v= .pointer (some ⟨b,off+q*2,none⟩)
 |6=>v= .agg #[.int .i64 x,.int .i64 y]
 |7=>∃L,v= .slice (some ⟨L,0,none⟩) 1 1/\wr.heap.size<=L/\Blk w L #[.int .i64 x,.int .i64 y] 41
 |_=>False
theorem FTu.kept {wr:Wd}{BE BO b off q n ak:Nat}{ov:Vu}{x y:Int}{i:Nat}{v:Vu}{w w':Wd}(h:FTu wr BE BO b off q n ak ov x y i v w)(hg:Below w.heap.size w w'):FTu wr BE BO b off q n ak ov x y i v w':=by
 unfold FTu at *;exact yiy
theorem a9n (S:BS)(w:Wd)(hT:TW S w)(id l r:Int)(lv:Vu)(n:Nat)(cf:SL S w 41 lv n)(hn:n<=100)(A8:a0l id)(fl:a0l l)(fr:a0l r) :
 Calls prog 111 #[.agg (edC id lv l r)] w λe w'=>∃S' v,e= .returned (.agg (edC id v r l))/\SL S' w' 41 v n/\Ev noB S w S' w':=by
 obtain⟨la,ak,rfl,sI⟩:=cf.form;go_enter func111,ntmps111;go_wp2_with fail;have ab:=λb hb=>hT.lt (b:=b) hb
 have h3:T3 S w w.heap.size (edC id (.slice la n ak) l r) (w.heap.size+1) edZ (w.heap.size+1+1) (edC id (.slice none 0 0) r l) 71 S (((w.alloc (.cells (edC id (.slice la n ak) l r) 71)).alloc (.cells edZ 71)).alloc (.cells (edC id (.slice none 0 0) r l) 71)):=by
  have hb:Below w.heap.size w (((w.alloc (.cells (edC id (.slice la n ak) l r) 71)).alloc (.cells edZ 71)).alloc (.cells (edC id (.slice none 0 0) r l) 71)):=zC;have k1:=Blk.new (w.alloc (.cells (edC id (.slice la n ak) l r) 71)) edZ 71;have k2:=Blk.new ((w.alloc (.cells (edC id (.slice la n ak) l r) 71)).alloc (.cells edZ 71)) (edC id (.slice none 0 0) r l) 71;simp only[World.size_alloc]at k1 k2;exact⟨Ev.of_below hT hb,((Blk.new w _ _).alloc _).alloc _,k1.alloc _,k2,λh=>by have:=ab _ h;omega,λh=>by have:=ab _ h;omega,λh=>by have:=ab _ h;omega,yR _,xM,xM,xM,xM⟩
 obtain⟨W1,ao⟩:=zE ((((w.alloc (.cells (edC id (.slice la n ak) l r) 71)).alloc (.cells edZ 71)).alloc (.cells (edC id (.slice none 0 0) r l) 71)));rw[ao]at h3;rw[ao];clear ao ab;obtain⟨BR,fC⟩:=zE (w.heap.size+1);obtain⟨BO,dW⟩:=zE (w.heap.size+1+1);obtain⟨BE,jX⟩:=zE w.heap.size;rw[dW,fC,jX]at h3;rw[dW,fC,jX];clear dW fC jX;go_loopw [4] (λkk wr=>∃(t:Nat) (S':BS) (ov:Vu),t<=n/\kk= .int .i64 ((t:Int)-1)/\SL S' wr 41 ov (n-t)/\T3 S w BE (edC id (.slice la n ak) l r) BR edZ BO (edC id ov r l) 71 S' wr) (λkk _=>(intOf kk+1).toNat)
 case atStart=>exact⟨n,S,.slice none 0 0,yR _,rfl,by rw[Nat.sub_self];exact SL.nil _ _ _,h3⟩
 case round =>
  clear h3;obtain⟨t,S',ov,ht,ng,jF,h3⟩:=hrel
  cases t with
  |zero =>
   subst ng;obtain⟨oa,oc,rfl,-⟩:=jF.form;rw[Nat.sub_zero]at jF h3;obtain⟨o0,o1,o2,o3⟩:=ed4 h3.o;have f0:=h3.r.frozen 0;have f1:=h3.r.frozen 1;have f2:=h3.r.frozen 2;have f3:=h3.r.frozen 3;obtain⟨r0,r1,r2,r3⟩:=ed4 h3.r;obtain⟨bg,bW,cM⟩:=h3.done (.int .i64 id) (.slice oa n oc) (.int .i64 r) (.int .i64 l);clear h3;go_wp2_with fail;exact bodyPost_ret (results_cell_row qM _ _ BR 71 _ (0,0) _ qM bW underlying71 qM zM) rfl ⟨_,_,rfl,jF.mono (λ_ h=>h) cM,bg⟩
  |succ q =>
   rw[show(((q+1:Nat):Int)-1)=(q:Int)from by omega]at ng;subst ng;have Dn:=h3.ev.sl cf;obtain⟨b,off,bk,bq,-,-⟩:=cf.some_ xM;simp only[Value.slice.injEq,true_and]at bq;obtain⟨rfl,rfl⟩:=bq;obtain⟨x,y,c0,c1,fx,fy⟩:=SL.point h3.ev.ok Dn (k:=q) xM;have iG:0<=(q:Int):=xM;have Iw:(q:Int)<(n:Int):=xM;have jd:=jF.form;go_upto_region 5 with fail;refine Go.wp_region_rel 8 zM zM (λ_ W=>TuI wr BE BO b off q id l r (.slice (some ⟨b,off,none⟩) n ak) ov x y W) (λw w'=>Below w.heap.size w w') (FTu wr BE BO b off q n ak ov x y) (λ_ _ _ _ h g=>h.kept g) ⟨(zR _ _).drew,h3.e.drew,h3.o.drew,c0,c1⟩ ?_ ?_
   ·clear h3 jF Dn cf
    intro i o hi ho c bb W hc hM hA hD K hK;match i,hi,ho with
    |0,_,ho =>
     cases ho;have f3:=a0a (v:= .pointer (some ⟨BO,0,none⟩)) (hA.at_ (k:=3) zM);go_simp;exact hK (.pointer (some ⟨BO,1,none⟩)) W rfl (zR _ _) hM
    |1,_,ho =>
     cases ho;have f20:=a0a (v:= .pointer (some ⟨BO,1,none⟩)) (a0b hD 0 20 zM rfl rfl);have z0:W.cell? ⟨BO,1,none⟩=some (ov):=hM.o.cell 1;go_simp;exact hK (ov) W rfl (zR _ _) hM
    |2,_,ho =>
     cases ho;have f1:=a0a (v:= .pointer (some ⟨BE,0,none⟩)) (hA.at_ (k:=1) zM);go_simp;exact hK (.pointer (some ⟨BE,1,none⟩)) W rfl (zR _ _) hM
    |3,_,ho =>
     cases ho;have f22:=a0a (v:= .pointer (some ⟨BE,1,none⟩)) (a0b hD 2 22 zM rfl rfl);have z0:W.cell? ⟨BE,1,none⟩=some (.slice (some ⟨b,off,none⟩) n ak):=hM.e.cell 1;go_simp;exact hK (.slice (some ⟨b,off,none⟩) n ak) W rfl (zR _ _) hM
    |4,_,ho =>
     cases ho;have f4:=a0a (v:= .int .i64 (q:Nat)) (hA.at_ (k:=4) zM);go_simp;exact hK (.int .i64 (q:Nat)) W rfl (zR _ _) hM
    |5,_,ho =>
     cases ho;have f23:=a0a (v:= .slice (some ⟨b,off,none⟩) n ak) (a0b hD 3 23 zM rfl rfl);have f24:=a0a (v:= .int .i64 (q:Nat)) (a0b hD 4 24 zM rfl rfl);go_simp;exact hK (.pointer (some ⟨b,off+q*2,none⟩)) W rfl (zR _ _) hM
    |6,_,ho =>
     cases ho;have f25:=a0a (v:= .pointer (some ⟨b,off+q*2,none⟩)) (a0b hD 5 25 zM rfl rfl);have z0:W.cell? ⟨b,off+q*2,none⟩=some (.int .i64 x):=hM.x;have z1:W.cell? ⟨b,off+q*2+1,none⟩=some (.int .i64 y):=hM.y;go_simp;exact hK (.agg #[.int .i64 x,.int .i64 y]) W rfl (zR _ _) hM
    |7,_,ho =>
     cases ho;have f26:=a0a (v:= .agg #[.int .i64 x,.int .i64 y]) (a0b hD 6 26 zM rfl rfl);exact ygm
    |i+8,hi,_=>exact absurd hi xM
   ·intro bb W hM hA aa
    obtain⟨L,rC,xI,kL⟩:=(show ∃L,bb.eval (.tmp 27)= .slice (some ⟨L,0,none⟩) 1 1/\wr.heap.size<=L/\Blk W L #[.int .i64 x,.int .i64 y] 41 from aa 7 xM _ _ rfl rfl);have eC:bb.eval (.tmp 21)=ov:=aa 1 xM _ _ rfl rfl;have az:=hA.frame (rT 20 (rF 8 (rT 3 ([])))) _ rfl zM;clear aa hA;obtain⟨f,hf⟩:=zDt bb;have nh:f 27= .slice (some ⟨L,0,none⟩) 1 1:=by rw[<-hf,<-rC];rfl
    have g21:f 21=ov:=by rw[<-hf,<-eC];rfl
    rw[hf]at az;clear hf rC eC;subst az;simp only[rT,rF,a1j,nh,g21,Nat.reduceAdd];clear nh g21;simp only[zU];have jG:Ev noB S' wr (λb=>S' b\/b=L) W:=(Ev.of_below h3.ev.ok hM.bel).adopt xI kL (a3x fx fy);have h4:=h3.evo jG;have sW:=jG.sl jF;have Dp:SL (λb=>S' b\/b=L) W 41 (.slice (some ⟨L,0,none⟩) 1 1) 1:=SL.blk (.inr rfl) kL (by show 1*2<=2;omega);have fK:=h3.no;clear h3 jF Dn hM jG;go_wp2_with (first
     |(at_builtin;refine a1h (X:=noB) h4.ev.ok qM _ _ 44 qM underlying44 a1l qM sW qM Dp xM ?_;intro v9 S9 w9 aQ cg;obtain⟨a9,c9,rfl,-⟩:=aQ.form;have h5:=h4.evo cg;obtain⟨-,o1,-,-⟩:=ed4 h5.o;have L5:=h5.o.frozen 1))
    go_roundw
    case rel=>exact⟨q,_,_,xM,by first|rfl|go_num,by rw[show n-q=n-(q+1)+1 from by omega];exact SL.mono aQ (λ_ h=>h) (Shp.set h5.no _ _),by have h6:=h5.set 1 (.slice a9 (n-(q+1)+1) c9);simpa using h6⟩
    case measure=>simp[intOf];try omega
theorem b0l (n₀ D:Nat)(sv:Vu)(xs:List Int)(S:BS)(w:Wd)(h:TD S n₀ D sv xs w)(ev:Vu)(m:Nat)(cT:SL S w 71 ev m)(hm:m<=100)(lv:Vu)(n:Nat)(cf:SL S w 41 lv n)(hn:n<=100)(l r:Int)(fl:a0l l)(fr:a0l r) :
 Calls prog 79 #[ev,lv,.int .i64 l,.int .i64 r,.pointer (some ⟨D,0,none⟩)] w λe w'=>∃S' v,e= .returned v/\(∃m',SL S' w' 71 v m'/\m'<=m+1)/\TD S' n₀ D sv xs w'/\Ev (a7d D) S w S' w':=by
 obtain⟨ea,lK,rfl,sX⟩:=cT.form;by_cases pg:l=r
 ·subst pg
  go_enter func79,ntmps79;go_wp2_with fail;go_ret;exact⟨S,_,rfl,⟨m,cT,xM⟩,h,Ev.refl h.tw⟩
 ·have L6:(l==r)=false:=by simpa using pg
  obtain⟨la,ak,rfl,dZ⟩:=cf.form;have ab:=λb hb=>h.tw.lt (b:=b) hb
  have mz:=h.lt;go_enter func79,ntmps79;go_upto_region 4 with fail;refine a0n (λW1 ao=> ?_);have bU:ST n₀ D sv xs S w S W1:=by
   rw[ao];exact h.st.alloc _
  have k1:Blk W1 w.heap.size (edC ((m:Int)+1) (.slice la n ak) l r) 71:=by
   rw[ao];exact Blk.new _ _ _
  have ni:SL S W1 71 (.slice ea m lK) m:=bU.ev.sl cT;have xJ:SL S W1 41 (.slice la n ak) n:=bU.ev.sl cf;clear ao;have n1:¬S w.heap.size:=λhb=>Nat.lt_irrefl _ (ab _ hb)
  have d1:w.heap.size≠D:=xM;have L7:w.heap.size<=w.heap.size:=yR _;obtain⟨B,hB⟩:=zE w.heap.size;have A9:w.heap.size<=B:=xM;rw[hB]at k1 n1 d1;rw[hB];clear hB ab mz L7;have A8:a0l ((m:Int)+1):=⟨xM,xM⟩;go_upto_if 25 with(first
   |(go_at_call 43;refine(bU.call 2 xM xM).mono ?_;rintro e W2⟨q,rfl,q0,q1,cX,fM,gw⟩;have k2:=k1.kept fM (λe=>d1 (Option.some.inj e).symm);have lL:=gw.sl ni;have sY:=gw.sl xJ))
  have aM:=cX.ev.size;clear bU fM gw ni xJ k1;by_cases hq:q=1
  ·subst hq
   obtain⟨z0,z1,z2,z3⟩:=ed4 k2;go_upto_region 6 with(first
    |(go_at_call 111;refine(a9n S W2 cX.td.tw _ _ _ _ n sY hn A8 fl fr).mono ?_;rintro e W3⟨S3,v3,rfl,sZ,ph⟩;obtain⟨a3,c3,rfl,-⟩:=sZ.form;have mA:=cX.evo ph;have k3:=ph.blk k2 n1 (λh=>h);have nj:=ph.sl lL;have n3:=ph.not k2.lt n1;obtain⟨z0,z1,z2,z3⟩:=ed4 k3;have f0:=k3.frozen 0;have f1:=k3.frozen 1;have f2:=k3.frozen 2;have f3:=k3.frozen 3))
   refine a0n (λW4 cU=> ?_);have rD:ST n₀ D sv xs S w S3 W4:=by
    rw[cU];exact(((mA.own A9 n3 d1 0 _).own A9 n3 d1 1 _).own A9 n3 d1 2 _).own A9 n3 d1 3 _
   have k4:Blk W4 B (edC ((m:Int)+1) (.slice a3 n c3) r l) 71:=by
    rw[cU];simpa using (((k3.set 0 (.int .i64 ((m:Int)+1))).set 1 (.slice a3 n c3)).set 2 (.int .i64 r)).set 3 (.int .i64 l)
   have cM:Shp S3 W3 W4:=by
    rw[cU];exact(((Shp.set n3 0 _).trans (Shp.set n3 1 _) (λ_ h=>h)).trans (Shp.set n3 2 _) (λ_ h=>h)).trans (Shp.set n3 3 _) (λ_ h=>h)
   have nk:=nj.mono (λ_ h=>h) cM;have Dq:=sZ.mono (λ_ h=>h) cM;clear cU z0 z1 z2 z3 f0 f1 f2 f3 k3 k2 mA cX nj lL sY sZ ph cM;obtain⟨z0,z1,z2,z3⟩:=ed4 k4;go_wp2_with (first
    |(at_builtin;refine a0x rD.td.tw qM _ _ 27 qM underlying27 a1u qM nk qM rfl (a8e A8 fr fl Dq hn) rfl xM ?_;intro v9 S9 w9 aQ cg))
   go_ret;exact⟨S9,_,rfl,⟨m+1,aQ,xM⟩,(rD.evo cg).td,(rD.evo cg).ev⟩
  ·have wY:(q==1)=false:=by simpa using hq
   obtain⟨z0,z1,z2,z3⟩:=ed4 k2;go_wp2_with (first
    |(at_builtin;refine a0x cX.td.tw qM _ _ 27 qM underlying27 a1u qM lL qM rfl (a8e A8 fl fr sY hn) rfl xM ?_;intro v9 S9 w9 aQ cg))
   go_ret;exact⟨S9,_,rfl,⟨m+1,aQ,xM⟩,(cX.evo cg).td,(cX.evo cg).ev⟩
theorem SL.int {S:BS}{W:Wd}{b off n cap:Nat}(hT:TW S W)(h:SL S W 3 (.slice (some ⟨b,off,none⟩) n cap) n){k:Nat}(hk:k<n):∃x,W.cell? ⟨b,off+k,none⟩=some (.int .i64 x)/\a0l x:=by
 obtain⟨u0,c0,h0⟩:=h.cell hT a4y hk 0 .int rfl;obtain⟨x,rfl,fx⟩:=h0.i rfl;rw[Nat.mul_one,Nat.add_zero]at c0;exact⟨x,c0,fx⟩
def FPu (lv ov:Vu)(n q:Nat)(x:Int)(i:Nat)(v:Vu)(S:BS)(w:Wd):Prop :=
 match i with
 |0=>v=ov
 |1=>v= .int .i64 x
 |2=>SL S w 3 v 1
 |3=>SL S w 3 v (q+1)
 |4=>v=lv
 |5=>v= .int .i64 (q:Nat)
 |6=>SL S w 3 v (n-q)
 |_=>False
theorem FPu.kept {lv ov:Vu}{n q:Nat}{x:Int}{i:Nat}{v:Vu}{S S':BS}{w w':Wd}(h:FPu lv ov n q x i v S w)(hg:Ev noB S w S' w'):FPu lv ov n q x i v S' w':=by
 unfold FPu at *;split at h
 all_goals first|exact h|exact hg.sl h
theorem SL.edge {S:BS}{W:Wd}{b off n cap:Nat}(hT:TW S W)(h:SL S W 71 (.slice (some ⟨b,off,none⟩) n cap) n){k:Nat}(hk:k<n):∃id l r lv m,W.cell? ⟨b,off+k*4,none⟩=some (.int .i64 id)/\W.cell? ⟨b,off+k*4+1,none⟩=some lv/\W.cell? ⟨b,off+k*4+2,none⟩=some (.int .i64 l)/\W.cell? ⟨b,off+k*4+3,none⟩=some (.int .i64 r)/\a0l id/\a0l l/\a0l r/\SL S W 41 lv m/\m<=100:=by
 obtain⟨u0,c0,h0⟩:=h.cell hT a1u hk 0 .int rfl;obtain⟨u1,c1,h1⟩:=h.cell hT a1u hk 1 (.sl 41) rfl;obtain⟨u2,c2,h2⟩:=h.cell hT a1u hk 2 .int rfl;obtain⟨u3,c3,h3⟩:=h.cell hT a1u hk 3 .int rfl;exact ygh
end
section
variable{a b c d:Int}
def b6t (a b:Int):Int:=(a-b).sign
theorem a6g (h:a<b):b6t a b = -1:=by unfold b6t;rw[Int.sign_eq_neg_one_of_neg xM]
theorem a8f (a:Int):b6t a a=0:=by unfold b6t;rw[Int.sub_self];rfl
theorem a6h (h:b<a):b6t a b=1:=by unfold b6t;rw[Int.sign_eq_one_of_pos xM]
def c2y (h l h' l':Int):Int:=if b6t h h'=0 then b6t l l' else b6t h h'
theorem b7w (p q:Nat):c2y (p / 18446744073709551616:Nat) (p % 18446744073709551616:Nat) (q / 18446744073709551616:Nat) (q % 18446744073709551616:Nat)=b6t p q:=by
 unfold c2y;rcases Nat.lt_trichotomy (p / 18446744073709551616) (q / 18446744073709551616)with h|h|h
 ·rw[a6g xM,if_neg jM,a6g xM]
 ·rw[h,a8f,if_pos rfl]
  rcases Nat.lt_trichotomy (p % 18446744073709551616) (q % 18446744073709551616)with h2|h2|h2
  ·rw[a6g xM,a6g xM]
  ·have:p=q:=xM
   rw[this,a8f,a8f]
  ·rw[a6h xM,a6h xM]
 ·rw[a6h xM,if_neg jM,a6h xM]
def b7x (a b c d:Int):Int:=(a*b-c*d).sign
theorem a8g (n:Int):(n<0/\n.sign = -1)\/(n=0/\n.sign=0)\/(0<n/\n.sign=1):=by
 rcases Int.lt_trichotomy n 0 with h|h|h
 ·exact .inl ⟨h,Int.sign_eq_neg_one_of_neg h⟩
 ·exact .inr (.inl ⟨h,by rw[h];rfl⟩)
 ·exact .inr (.inr ⟨h,Int.sign_eq_one_of_pos h⟩)
theorem b7y (n:Int):n.sign = -1\/n.sign=0\/n.sign=1:=by
 rcases a8g n with h|h|h <;> simp[h.2]
theorem c3e (h:a.sign*b.sign≠c.sign*d.sign):(a.sign*b.sign-c.sign*d.sign).sign=b7x a b c d:=by
 unfold b7x;rw[<-Int.sign_mul,<-Int.sign_mul]at *;generalize a*b=x at *;generalize c*d=y at *;rcases a8g x with⟨h1,e1⟩|⟨h1,e1⟩|⟨h1,e1⟩ <;> rcases a8g y with⟨h2,e2⟩|⟨h2,e2⟩|⟨h2,e2⟩ <;> rw[e1,e2]at h ⊢ <;>
  first
  |exact absurd rfl h
  |(rw[Int.sign_eq_neg_one_of_neg (a:=x-y) xM];rfl)
  |(rw[Int.sign_eq_one_of_pos (a:=x-y) xM];rfl)
theorem c3f (h:a.sign*b.sign=c.sign*d.sign):a.sign*b.sign*b6t ((a.natAbs*b.natAbs:Nat):Int) ((c.natAbs*d.natAbs:Nat):Int)=b7x a b c d:=by
 unfold b7x b6t;rw[<-Int.natAbs_mul,<-Int.natAbs_mul];rw[<-Int.sign_mul,<-Int.sign_mul]at h;rw[<-Int.sign_mul];generalize a*b=x at *;generalize c*d=y at *;rcases a8g x with⟨h1,e1⟩|⟨h1,e1⟩|⟨h1,e1⟩ <;> rcases a8g y with⟨h2,e2⟩|⟨h2,e2⟩|⟨h2,e2⟩ <;> rw[e1,e2]at h <;> try omega
 ·rw[e1,show((x.natAbs:Int)) = -x from by omega,show((y.natAbs:Int)) = -y from by omega,show -x - -y = -(x-y)from by omega,Int.sign_neg]
  omega
 ·rw[e1,h1,h2];rfl
 ·rw[e1,show((x.natAbs:Int))=x from by omega,show((y.natAbs:Int))=y from by omega,Int.one_mul]
/-! ### roots -/
/-! ### greatest common divisors -/
end
section
open Go
theorem a4f (x:Nat)(h:x<18446744073709551616):IntKind.u64.wrap (x:Int)=(x:Int):=IntWalk.u64_in _ xM
theorem a7t (a:Nat)(ha:a<18446744073709551616):bits .and .u64 (a:Int) 4294967295=((a % 4294967296:Nat):Int):=by
 have h:=bits_and_u64_nat a 4294967295 ha jM;have e:a &&& 4294967295=a % 4294967296:=Nat.and_two_pow_sub_one_eq_mod a 32;rw[e]at h;exact h
theorem c3g (a b:Nat)(ha:a<18446744073709551616)(hb:b<18446744073709551616) :
 IntKind.u64.wrap (IntKind.u64.wrap ((a:Int) / 4294967296*bits .and .u64 (b:Int) 4294967295)+IntKind.u64.wrap (bits .and .u64 (a:Int) 4294967295*bits .and .u64 (b:Int) 4294967295) / 4294967296) =
  (((a / 4294967296)*(b % 4294967296)+(a % 4294967296)*(b % 4294967296) / 4294967296:Nat):Int):=by
 obtain⟨h1,h2,-,-⟩:=Lib.mul64_hi a b ha hb;have h3:=Lib.half_mul_le (a:=a / 4294967296) (b:=b % 4294967296) xM xM;rw[a7t a ha,a7t b hb,show((a:Int) / 4294967296)=((a / 4294967296:Nat):Int)from rfl,<-Int.natCast_mul,<-Int.natCast_mul,a4f _ xM,a4f _ h1];rw[show((((a % 4294967296)*(b % 4294967296):Nat):Int) / 4294967296)=(((a % 4294967296)*(b % 4294967296) / 4294967296:Nat):Int)from rfl,<-Int.natCast_add,a4f _ h2]
theorem c5k (a b:Nat)(ha:a<18446744073709551616)(hb:b<18446744073709551616)(T:Int)
 (hT:T=(((a / 4294967296)*(b % 4294967296)+(a % 4294967296)*(b % 4294967296) / 4294967296:Nat):Int)) :
 IntKind.u64.wrap (IntKind.u64.wrap (IntKind.u64.wrap ((a:Int) / 4294967296*((b:Int) / 4294967296))+T / 4294967296) +
  IntKind.u64.wrap (bits .and .u64 T 4294967295+IntKind.u64.wrap (bits .and .u64 (a:Int) 4294967295*((b:Int) / 4294967296))) / 4294967296)=((a*b / 18446744073709551616:Nat):Int):=by
 subst hT;obtain⟨h1,h2,h3,h4⟩:=Lib.mul64_hi a b ha hb;have h5:=Lib.half_mul_le (a:=a / 4294967296) (b:=b / 4294967296) xM xM;have h6:=Lib.half_mul_le (a:=a % 4294967296) (b:=b / 4294967296) xM xM;have hq:a*b / 18446744073709551616<18446744073709551616:=by
  have:a*b<18446744073709551616*18446744073709551616:=Nat.mul_lt_mul'' ha hb;exact Nat.div_lt_of_lt_mul this
 rw[a7t _ h2,a7t a ha,show((a:Int) / 4294967296)=((a / 4294967296:Nat):Int)from rfl,show((b:Int) / 4294967296)=((b / 4294967296:Nat):Int)from rfl,
  <-Int.natCast_mul,<-Int.natCast_mul,a4f _ xM,a4f _ xM,<-Int.natCast_add,a4f _ xM]
 generalize (a / 4294967296)*(b % 4294967296)+(a % 4294967296)*(b % 4294967296) / 4294967296=t at *;rw[show(((t:Nat):Int) / 4294967296)=((t / 4294967296:Nat):Int)from rfl,<-Int.natCast_add,a4f _ xM];rw[show((((t % 4294967296+a % 4294967296*(b / 4294967296):Nat)):Int) / 4294967296)=(((t % 4294967296+a % 4294967296*(b / 4294967296)) / 4294967296:Nat):Int)from rfl,<-Int.natCast_add,h4,a4f _ hq]
theorem c5l (a b:Nat):IntKind.u64.wrap ((a:Int)*(b:Int))=((a*b % 18446744073709551616:Nat):Int):=by
 rw[IntKind.wrap_u64,<-Int.natCast_mul];rfl
def hiN (a b:Nat):Int:=((a*b / 18446744073709551616:Nat):Int)
def loN (a b:Nat):Int:=((a*b % 18446744073709551616:Nat):Int)
end
section
open Go.RowKit Go.Shelf
variable{W w1:Wd}
theorem b2f (n:Int)(w:Wd)(h0 : -9223372036854775808<=n)(h1:n<=9223372036854775807):
 Calls prog 166 #[.int .i64 n] w λe w'=>e= .returned (.int .u64 n.natAbs)/\w=w':=by
 by_cases h:n<0
 ·go_enter func166,ntmps166
  go_wp2
  go_ret;exact⟨a5c (by rw[IntKind.wrap_u64,IntKind.wrap_u64];omega),rfl⟩
 ·go_enter func166,ntmps166
  go_wp2
  go_ret;exact⟨a5c xM,rfl⟩
theorem b0m (n:Int)(w:Wd):
 Calls prog 164 #[.int .i64 n] w λe w'=>e= .returned (.int .i64 n.sign)/\w=w':=by
 rcases Int.lt_trichotomy n 0 with h|h|h
 ·have h1:¬(0<n):=xM
  go_enter func164,ntmps164;go_wp2
  go_ret;exact⟨a5c (Int.sign_eq_neg_one_of_neg h).symm,rfl⟩
 ·subst h
  go_enter func164,ntmps164;go_wp2
  go_ret;exact⟨rfl,rfl⟩
 ·have h1:¬(n<0):=xM
  go_enter func164,ntmps164;go_wp2
  go_ret;exact⟨a5c (Int.sign_eq_one_of_pos h).symm,rfl⟩
theorem a7e (a b:Nat)(w:Wd)(ha:a<18446744073709551616)(hb:b<18446744073709551616):
 Zc prog 165 #[.int .u64 a,.int .u64 b] w (.agg #[.int .u64 (hiN a b),.int .u64 (loN a b)]):=by
 have hh:=c5k a b ha hb _ (c3g a b ha hb);rw[Int.add_comm (bits .and .u64 _ _)]at hh;have H:=Lib.hid hh;clear hh;go_enter func165,ntmps165;go_wp2
 refine bodyPost_ret (v:= .agg #[.int .u64 (hiN a b),.int .u64 (loN a b)]) ?_ rfl ⟨rfl,?_⟩
 ·rw[show hiN a b=_ from H.out.symm,show loN a b=_ from(c5l a b).symm];simp[results,results165,go_sem]
 ·exact(zR _ _).alloc (yR _) _
theorem c6t (hb:Below W.heap.size W w1):(∀b o,b<W.heap.size->w1.cell? ⟨b,o,none⟩=W.cell? ⟨b,o,none⟩)/\(∀b o,b<W.heap.size->w1.frozen? ⟨b,o,none⟩=W.frozen? ⟨b,o,none⟩) :=
 ⟨λb o h=>hb.cell (p:=⟨b,o,none⟩) h,λb o h=>hb.frozen (p:=⟨b,o,none⟩) h⟩
theorem c6u (n:Int): -1<=n.sign/\n.sign<=1:=by rcases b7y n with h|h|h <;> rw[h] <;> decide
theorem a9o (a b:Int): -1<=a.sign*b.sign/\a.sign*b.sign<=1:=by rw[<-Int.sign_mul];exact c6u _
theorem c3h (a b c d:Nat):c2y (hiN a b) (loN a b) (hiN c d) (loN c d)=b6t ((a*b:Nat):Int) ((c*d:Nat):Int):=b7w _ _
theorem a5q (a:Int)(a0 : -9223372036854775808<=a)(a1:a<=9223372036854775807):a.natAbs<18446744073709551616:=xM
theorem a5f {B:Nat}{a w:Wd}(h:Below B a w):∀n,Below B a (w.drewN n)
 |0=>h
 |n+1=>by
  have:=a5f h n;exact⟨this.os,this.tape,this.output,this.size,this.block⟩
theorem c4x {w w2:Wd}{o1 o2:Obj}(ah:Below w.heap.size w w1)(aq:Below (w1.alloc o1).heap.size (w1.alloc o1) w2)(n:Nat):Below w.heap.size w ((w2.alloc o2).drewN n):=by
 have h1:=ah.size;have h2:=aq.size;simp at h2;exact a5f (((ah.alloc h1 o1).trans (aq.mono uM)).alloc xM o2) n
theorem c5m (a b c d:Int)(h:c<a):c2y a b c d=1:=by unfold c2y;rw[a6h h,if_neg jM]
theorem c5n (a b c d:Int)(h:a<c):c2y a b c d = -1:=by unfold c2y;rw[a6g h,if_neg jM]
theorem a8h (a b d:Int):c2y a b a d=b6t b d:=by unfold c2y;rw[a8f,if_pos rfl]
theorem a9p (a b c d:Int)(w:Wd)(a0 : -9223372036854775808<=a)(a1:a<=9223372036854775807)(b0 : -9223372036854775808<=b)(b1:b<=9223372036854775807)
 (c0 : -9223372036854775808<=c) (c1:c<=9223372036854775807) (d0 : -9223372036854775808<=d) (d1:d<=9223372036854775807) :
 Zc prog 162 #[.int .i64 a,.int .i64 b,.int .i64 c,.int .i64 d] w (.int .i64 (b7x a b c d)):=by
 obtain⟨p0,p1⟩:=a9o a b;obtain⟨q0,q1⟩:=a9o c d;by_cases h:a.sign*b.sign=c.sign*d.sign
 ·have hb:(a.sign*b.sign != c.sign*d.sign)=false:=by simp[h]
  have HE:Hid (a.sign*b.sign*c2y (hiN a.natAbs b.natAbs) (loN a.natAbs b.natAbs) (hiN c.natAbs d.natAbs) (loN c.natAbs d.natAbs)=b7x a b c d):=by rw[c3h];exact c3f h
  clear h;go_enter func162,ntmps162;go_wp2_with (first|(go_at_call 164;refine(b0m _ _).mono ?_;rintro e w'⟨rfl,rfl⟩)|(go_at_call 166;refine(b2f _ _ yM yM).mono ?_;rintro e w'⟨rfl,rfl⟩));refine(a7e _ _ _ (a5q a a0 a1) (a5q b b0 b1)).mono ?_;rintro e w1⟨rfl,ah⟩;go_wp2_with (first|(go_at_call 164;refine(b0m _ _).mono ?_;rintro e w'⟨rfl,rfl⟩)|(go_at_call 166;refine(b2f _ _ yM yM).mono ?_;rintro e w'⟨rfl,rfl⟩));refine(a7e _ _ _ (a5q c c0 c1) (a5q d d0 d1)).mono ?_;rintro e w2⟨rfl,aq⟩;generalize hiN a.natAbs b.natAbs=x0 at *;generalize loN a.natAbs b.natAbs=x1 at *;generalize hiN c.natAbs d.natAbs=y0 at *;generalize loN c.natAbs d.natAbs=y1 at *;have gV:w2.cell? ⟨w1.heap.size,0,none⟩=some (.int .u64 x0):=by rw[(c6t aq).1 _ _ vM];simp
  have aR:w2.cell? ⟨w1.heap.size,1,none⟩=some (.int .u64 x1):=by rw[(c6t aq).1 _ _ vM];simp
  have hz:w1.heap.size<w2.heap.size:=by have:=aq.size;simp at this;omega
  go_wp2_with fail;refine wp_loop_rounds 3 ?_;rw[rounds_succ];rcases Int.lt_trichotomy x0 y0 with hx|hx|hx
  ·have hn:¬y0<x0:=xM
   have HF:=Lib.hid (c5n x0 x1 y0 y1 hx);go_wp2_with fail;go_quiet (fail)
   exact yht
  ·subst hx
   rcases Int.lt_trichotomy x1 y1 with hx|hx|hx
   ·have hn:¬y1<x1:=xM
    have HF:=Lib.hid ((a8h x0 x1 y1).trans (a6g hx));go_wp2_with fail;go_quiet (fail)
    go_wp2_with fail;go_quiet (fail)
    go_wp2_with fail;rw[rounds_succ];go_wp2_with fail;go_quiet (fail)
    exact yht
   ·subst hx
    have HF:=Lib.hid ((a8h x0 x1 x1).trans (a8f x1));go_wp2_with fail;go_quiet (fail)
    go_wp2_with fail;go_quiet (fail)
    go_wp2_with fail;rw[rounds_succ];go_wp2_with fail;go_quiet (fail)
    go_wp2_with fail;go_quiet (fail)
    go_wp2_with fail;rw[rounds_succ];exact ybp
   ·have hn:¬x1<y1:=xM
    have HF:=Lib.hid ((a8h x0 x1 y1).trans (a6h hx));go_wp2_with fail;go_quiet (fail)
    go_wp2_with fail;go_quiet (fail)
    go_wp2_with fail;rw[rounds_succ];exact yht
  ·have hn:¬x0<y0:=xM
   have HF:=Lib.hid (c5m x0 x1 y0 y1 hx);exact yht
 ·have HE:=Lib.hid (c3e h)
  have hb:(a.sign*b.sign != c.sign*d.sign)=true:=by simp[h]
  clear h;go_enter func162,ntmps162;go_wp2_with (go_at_call 164;refine(b0m _ _).mono ?_;rintro e w'⟨rfl,rfl⟩);go_ret;exact⟨a5c HE.out,zR _ _⟩
def c6v (e:Ending):Prop:=∃b:Bool,e= .returned (.bool b)
def c8l (e:Ending):Prop:=∃x:Int,e= .returned (.int .i64 x)
theorem st3 {b:Nat}{x y d:Int}{t:Td}(h:Blk W b #[.int .i64 x,.int .i64 y,.int .i64 d] t):W.cell? ⟨b,0,none⟩=some (.int .i64 x)/\W.cell? ⟨b,1,none⟩=some (.int .i64 y)/\W.cell? ⟨b,2,none⟩=some (.int .i64 d):=⟨h.cell 0,h.cell 1,h.cell 2⟩
theorem a4p (x y:Int)(w:Wd):Zc prog 139 #[.agg #[.int .i64 x,.int .i64 y]] w (.agg #[.int .i64 x,.int .i64 y,.int .i64 1]):=by
 go_enter func139,ntmps139;go_wp2_with fail;have hk:=Blk.new (w.alloc (.cells #[.int .i64 x,.int .i64 y] 41)) #[.int .i64 x,.int .i64 y,.int .i64 1] 211;rw[World.size_alloc]at hk;exact bodyPost_ret (results_cell_row qM _ _ _ 211 _ (0,0) _ qM hk underlying211 qM zM) rfl ⟨rfl,zC⟩
theorem a7f (x y d:Int)(w:Wd):Calls prog 138 #[.agg #[.int .i64 x,.int .i64 y,.int .i64 d]] w λe w'=>c6v e/\Below w.heap.size w w':=by
 go_enter func138,ntmps138;go_wp2_with fail
 all_goals
  go_ret;exact⟨⟨_,rfl⟩,zC⟩
theorem c5o (x y d:Int)(w:Wd):Calls prog 161 #[.agg #[.int .i64 x,.int .i64 y,.int .i64 d]] w λe w'=>c6v e/\Below w.heap.size w w':=by
 go_enter func161,ntmps161;go_wp2_with (first|(go_at_call 163;refine(b2d _ _ _ _).mono ?_;rintro e w'⟨rfl,rfl⟩)|fail)
 all_goals
  go_ret;exact⟨⟨_,rfl⟩,zC⟩
theorem a4g (ax ay ad bx by_ bd px py pd:Int)(w:Wd):Calls prog 152 #[.agg #[.int .i64 ax,.int .i64 ay,.int .i64 ad],.agg #[.int .i64 bx,.int .i64 by_,.int .i64 bd],.agg #[.int .i64 px,.int .i64 py,.int .i64 pd]] w λe w'=>c8l e/\Below w.heap.size w w':=by
 go_enter func152,ntmps152;go_wp2_with (first
  |(go_at_call 161;refine(c5o _ _ _ _).mono ?_;rintro e w'⟨⟨b,rfl⟩,aE⟩;obtain⟨p,rfl⟩:=a0j aE;clear aE)
  |(go_at_call 162;refine(a9p _ _ _ _ _ (a1a _).1 (a1a _).2 (a1a _).1 (a1a _).2 (a1a _).1 (a1a _).2 (a1a _).1 (a1a _).2).mono ?_;rintro e w'⟨rfl,aE⟩;obtain⟨p,rfl⟩:=a0j aE;clear aE))
 all_goals
  go_ret;exact⟨⟨_,rfl⟩,zC⟩
theorem b0n (n d m e:Int)(w:Wd)(hn:a0l n)(hd:a0l d)(hm:a0l m)(he:a0l e):Calls prog 155 #[.agg #[.int .i64 n,.int .i64 d],.agg #[.int .i64 m,.int .i64 e]] w λo w'=>c8l o/\Below w.heap.size w w':=by
 go_enter func155,ntmps155;go_wp2_with (first
  |(go_at_call 162;refine(a9p _ _ _ _ _ hn.1 hn.2 he.1 he.2 hm.1 hm.2 hd.1 hd.2).mono ?_;rintro e w'⟨rfl,aE⟩;obtain⟨p,rfl⟩:=a0j aE;clear aE))
 all_goals
  go_ret;exact⟨⟨_,rfl⟩,zC⟩
theorem b9w (x y d px py:Int)(w:Wd)(hy:a0l y)(hd:a0l d)(hp:a0l py):Calls prog 154 #[.agg #[.int .i64 x,.int .i64 y,.int .i64 d],.agg #[.int .i64 px,.int .i64 py]] w λo w'=>c6v o/\Below w.heap.size w w':=by
 go_enter func154,ntmps154;go_wp2_with (first
  |(go_at_call 155;refine(b0n _ _ _ _ _ hy hd hp ⟨jM,jM⟩).mono ?_;rintro e w'⟨⟨r,rfl⟩,aE⟩;obtain⟨p,rfl⟩:=a0j aE;clear aE))
 all_goals
  go_ret;exact⟨⟨_,rfl⟩,zC⟩
theorem b9x (n a b c d:Int)(w:Wd)(hn:a0l n)(ha:a0l a)(hb:a0l b)(hc:a0l c)(hd:a0l d):Calls prog 153 #[.int .i64 n,.agg #[.int .i64 a,.int .i64 b],.agg #[.int .i64 c,.int .i64 d]] w λo w'=>c8l o/\Below w.heap.size w w':=by
 go_enter func153,ntmps153;go_wp2_with (first
  |(go_at_call 155;refine(b0n _ _ _ _ _ hn ⟨jM,jM⟩ (by first|exact ha|exact hc) (by first|exact hb|exact hd)).mono ?_;rintro e w'⟨⟨r,rfl⟩,aE⟩;obtain⟨p,rfl⟩:=a0j aE;clear aE))
 all_goals
  go_ret;exact⟨⟨_,rfl⟩,zC⟩
end
end Go.Proofs.YteijfnkidefekaaGreat
