/-
  Parts.
-/
import Derived.Test.YtfocdbjceedagaaGreatDoorXas
set_option linter.unusedVariables false
set_option linter.unusedSimpArgs false
set_option maxHeartbeats 2000000
set_option maxRecDepth 100000
namespace Go.Proofs.YtfocdbjceedagaaGreatDoor
open Tryz
section
open Go.RowKit Go.Shelf
attribute [local go_sem] Oper.semAt_some
attribute [local go_sem ↓] Go.wp_at_zero Go.wp_at_succ
abbrev noB:BS:=fun _=>False
theorem Ev.more {X Y S S':BS}{W W':World}(h:Ev X S W S' W')(hXY:∀b,X b→Y b):Ev Y S W S' W' :=
 ⟨h.sub,h.new,h.os,h.tape,h.output,h.size,fun b hb hn hy=>h.rest b hb hn (fun hx=>hy (hXY b hx)),h.shape,h.ok⟩
theorem Ev.any {Y S S':BS}{W W':World}(h:Ev noB S W S' W'):Ev Y S W S' W':=h.more (fun _ h=>h.elim)
theorem Ev.own {X S S1:BS}{W W1 W2:World}{row:Option Nat}(h:Ev X S W S1 W1)(hg:W1.grownBy W2 row)(hr:∀r,row=some r→¬S1 r∧W.heap.size≤r):Ev X S W S1 W2:=by
 have h2:TW S1 W2:=h.ok.of_same (fun b hb=>hg.block b (h.ok.lt hb) (fun e=>(hr b e.symm).1 hb));exact⟨h.sub,h.new,hg.os.trans h.os,hg.tape.trans h.tape,hg.output.trans h.output,Nat.le_trans h.size hg.size,fun b hb hn hx=>(hg.block b (Nat.lt_of_lt_of_le hb h.size) (fun e=>by have:=(hr b e.symm).2;omega)).trans (h.rest b hb hn hx),fun b c e hb hc=>by
  obtain⟨c',hc',hz⟩:=h.shape b c e hb hc;exact⟨c',(hg.block b hc'.lt (fun e=>(hr b e.symm).1 (h.sub b hb))).trans hc',hz⟩,h2⟩
structure ST (n₀ D:Nat)(sv:Value)(xs:List Int)(S0:BS)(W0:World)(S:BS)(W:World):Prop where
 td:TD S n₀ D sv xs W
 ev:Ev (a9j D) S0 W0 S W
 lo:n₀≤W0.heap.size
theorem a1g (W:World)(b i:Nat)(v:Value):W.grownBy (W.setCell ⟨b,i,none⟩ v) (some b) :=
 ⟨rfl,rfl,rfl,by simp,fun k hk hne=>Below.heap_setCell _ _ _ _ (fun e=>hne (by rw[e]))⟩
section
variable {n₀ D:Nat}{sv:Value}{xs:List Int}{S0 S S':BS}{W0 W W':World}
theorem TD.st (h:TD S n₀ D sv xs W):ST n₀ D sv xs S W S W:=⟨h,Ev.refl h.tw,by have:=h.lt;have:=h.le;omega⟩
theorem ST.evo (h:ST n₀ D sv xs S0 W0 S W)(he:Ev noB S W S' W'):ST n₀ D sv xs S0 W0 S' W':=⟨h.td.ev he (fun _ h=>h.elim),h.ev.trans he.any,h.lo⟩
theorem ST.up (h:ST n₀ D sv xs S0 W0 S W)(hb:Below W.heap.size W W'):ST n₀ D sv xs S0 W0 S W':=h.evo (Ev.of_below h.td.tw hb)
theorem ST.alloc (h:ST n₀ D sv xs S0 W0 S W)(o:Obj):ST n₀ D sv xs S0 W0 S (W.alloc o):=h.up ((zR _ _).alloc (yR _) _)
theorem ST.allocT (h:ST n₀ D sv xs S0 W0 S W){c:Array Value}{e:TypeId}(hc:TB S W e c):ST n₀ D sv xs S0 W0 (fun b=>S b∨b=W.heap.size) (W.alloc (.cells c e)):=h.evo (Ev.alloc h.td.tw hc)
theorem ST.call (h:ST n₀ D sv xs S0 W0 S W)(m:Int)(hm1:1≤m)(hm2:m≤4611686018427387904) :
 Calls prog 73 #[.pointer (some ⟨D,0,none⟩),.int .i64 m] W fun e W'=>∃v,e= .returned (.int .i64 v)∧0≤v∧v<m∧ST n₀ D sv xs S0 W0 S W'∧W.grownBy W' (some D)∧Ev (a9j D) S W S W':=by
 refine (h.td.call m hm1 hm2).mono ?_;rintro e W'⟨v,rfl,h0,h1,h2,hg,h3⟩;exact⟨v,rfl,h0,h1,⟨h2,h.ev.trans h3,h.lo⟩,hg,h3⟩
theorem ST.then_ (h:ST n₀ D sv xs S0 W0 S W)(h1:TD S' n₀ D sv xs W')(h2:Ev (a9j D) S W S' W'):ST n₀ D sv xs S0 W0 S' W':=⟨h1,h.ev.trans h2,h.lo⟩
theorem ST.own (h:ST n₀ D sv xs S0 W0 S W){r:Nat}(hr:W0.heap.size≤r)(hS:¬S r)(hD:r≠D)(i:Nat)(v:Value):ST n₀ D sv xs S0 W0 S (W.setCell ⟨r,i,none⟩ v):=by
 have hg:=a1g W r i v;have hlt:=h.td.lt;obtain⟨j,hj,hb⟩:=h.td.box;have he:=h.ev.own hg (fun q e=>by cases e;exact⟨hS,hr⟩);have hlo:=h.lo;exact⟨⟨he.ok,⟨j,hj,hb.kept hg (fun e=>hD (Option.some.inj e))⟩,h.td.ints.below (Below.of_grown hg (by have:=h.td.le;omega) (fun q e=>by cases e;omega)),h.td.le,h.td.len,h.td.low,h.td.not⟩,he,h.lo⟩
theorem ST.blk0 (h:ST n₀ D sv xs S0 W0 S W){b:Nat}{c:Array Value}{t:TypeId}(hb:Blk W0 b c t)(hn:¬S0 b)(hD:b≠D):Blk W b c t∧¬S b:=⟨h.ev.blk hb hn hD,h.ev.not hb.lt hn⟩
end
theorem pt2 {W:World}{b:Nat}{x y:Int}{t:TypeId}(h:Blk W b #[.int .i64 x,.int .i64 y] t):W.cell? ⟨b,0,none⟩=some (.int .i64 x)∧W.cell? ⟨b,1,none⟩=some (.int .i64 y)∧W.frozen? ⟨b,0,none⟩=false∧W.frozen? ⟨b,1,none⟩=false:=⟨h.cell 0,h.cell 1,h.frozen 0,h.frozen 1⟩
theorem a0w {S:BS}{W:World}(hT:TW S W){ops:Array Oper}{rest:List Oper}{o:Oper}{a:Act}{Q:Exit→Act→World→Prop}(hgd:o.guard=none)(sO xO:Operand)(t:TypeId)(ho:o.op= .call { callee:= .builtin .append,args:= #[sO,xO],argTypes:= #[t,t] })
 {e:TypeId} {s:Nat} (ht:prog.underlying t=some (.slice e)) (he:ET e s) {v:Value} {n:Nat} (hsv:a.eval sO=v) (hv:SL S W e v n) {H:Nat} (hxv:a.eval xO= .slice (some ⟨H,0,none⟩) 1 1) (hH:W.heap.size=H) {c:Array Value} (hc:TB S W e c) (hcs:c.size=s) (hl:n≤1000)
 (h:∀v' S' w',SL S' w' e v' (n+1)→Ev noB S W S' w'→wpList prog ops Q rest (a.put o.dst v') w'):wpList prog ops Q (o::rest) a (W.alloc (.cells c e)):=by
 subst hH;have hA:=Ev.alloc (X:=noB) hT hc;refine a1b (X:=noB) hA.ok hgd sO xO t ho ht he hsv (hA.sl hv) hxv (SL.blk (.inr rfl) (Blk.new W c e) (by rw[he.size,hcs,Nat.one_mul];exact yR _)) (by omega) fun v' S' w' h1 h2=>h v' S' w' h1 (hA.trans h2)
theorem d4j (ax ay bx by_:Int)(w:World):Calls prog 163 #[.agg #[.int .i64 ax,.int .i64 ay],.agg #[.int .i64 bx,.int .i64 by_]] w fun e w'=>(∃x y,e= .returned (.agg #[.int .i64 x,.int .i64 y])∧a0k x∧a0k y)∧Below w.heap.size w w':=by
 go_enter func163,ntmps163;go_wp2_with fail;have hk:=Blk.new ((w.alloc (.cells #[.int .i64 ax,.int .i64 ay] 26)).alloc (.cells #[.int .i64 bx,.int .i64 by_] 26)) #[.int .i64 (wrap64 (ax-bx)),.int .i64 (wrap64 (ay-by_))] 26;simp only[World.size_alloc] at hk;exact bodyPost_ret (results_cell_row (by rfl) _ _ _ 26 _ (0,0) _ (by rfl) hk underlying26 (by rfl) (by kernel_rfl)) rfl ⟨⟨_,_,rfl,a0j _,a0j _⟩,zC⟩
theorem Shp.set {S:BS}{W:World}{B:Nat}(h:¬S B)(i:Nat)(v:Value):Shp S W (W.setCell ⟨B,i,none⟩ v):=fun b c e hb hc=>⟨c,hc.other (fun q=>h (by subst q;exact hb)) i v,rfl⟩
structure WG7 (wr:World)(B3 BU:Nat)(ax ay ux uy:Int)(W:World):Prop where
 b:Below wr.heap.size wr W
 a:Blk W B3 #[.int .i64 ax,.int .i64 ay] 26
 u:Blk W BU #[.int .i64 ux,.int .i64 uy] 26
theorem WG7.up {wr:World}{B3 BU:Nat}{ax ay ux uy:Int}{W W':World}(h:WG7 wr B3 BU ax ay ux uy W)(hb:Below W.heap.size W W'):WG7 wr B3 BU ax ay ux uy W':=⟨h.b.trans (hb.mono h.b.size),h.a.below hb h.a.lt,h.u.below hb h.u.lt⟩
def FWg (wr:World)(B3 BU k M:Nat)(ax ay ux uy:Int)(i:Nat)(v:Value)(w:World):Prop :=
 match i with
 |0=>v= .pointer (some ⟨B3,0,none⟩)
 |1=>v= .int .i64 ax
 |2=>v= .pointer (some ⟨BU,0,none⟩)
 |3=>v= .int .i64 ux
 |4=>v= .int .i64 (k:Nat)
 |5=>∃x,v= .int .i64 x∧a0k x
 |6=>v= .int .i64 (M:Nat)
 |7=>v= .int .i64 ((M:Nat)+1)
 |8=>∃x,v= .int .i64 x∧a0k x
 |9=>∃x,v= .int .i64 x∧a0k x
 |10=>v= .pointer (some ⟨B3,1,none⟩)
 |11=>v= .int .i64 ay
 |12=>v= .pointer (some ⟨BU,1,none⟩)
 |13=>v= .int .i64 uy
 |14=>v= .int .i64 (k:Nat)
 |15=>∃x,v= .int .i64 x∧a0k x
 |16=>v= .int .i64 (M:Nat)
 |17=>v= .int .i64 ((M:Nat)+1)
 |18=>∃x,v= .int .i64 x∧a0k x
 |19=>∃x,v= .int .i64 x∧a0k x
 |20=>∃X Y,v= .agg #[.int .i64 X,.int .i64 Y]∧a0k X∧a0k Y
 |21=>∃B,v= .pointer (some ⟨B,0,none⟩)∧wr.heap.size≤B∧Blk w B #[.int .i64 0,.int .i64 0] 26
 |_=>False
theorem FWg.kept {wr:World}{B3 BU k M:Nat}{ax ay ux uy:Int}{i:Nat}{v:Value}{w w':World}(h:FWg wr B3 BU k M ax ay ux uy i v w)(hg:Below w.heap.size w w'):FWg wr B3 BU k M ax ay ux uy i v w':=by
 unfold FWg at *;split at h
 all_goals first|exact h|(exact h)|(obtain⟨B,h1,h2,h3⟩:=h;exact⟨B,h1,h2,h3.below hg h3.lt⟩)
theorem c2j (n₀ D:Nat)(sv:Value)(xs:List Int)(S:BS)(w:World)(h:TD S n₀ D sv xs w)(ax ay bx by_:Int)(fa:a0k ax)(fb:a0k ay)(fc:a0k bx)(fd:a0k by_) :
 Calls prog 127 #[.agg #[.int .i64 ax,.int .i64 ay],.agg #[.int .i64 bx,.int .i64 by_],.pointer (some ⟨D,0,none⟩)] w fun e w'=>∃S' v n,e= .returned v∧SL S' w' 26 v n∧n≤6∧TD S' n₀ D sv xs w'∧Ev (a9j D) S w S' w':=by
 have hlt:=fun b hb=>h.tw.lt (b:=b) hb
 have hDl:=h.lt;go_enter func127,ntmps127;go_upto_region 2 with fail;refine a0g (fun W1 hW1=> ?_);have hs1:ST n₀ D sv xs S w (fun b=>S b∨b=w.heap.size+1+1) W1:=by
  have h1:=((h.st.alloc (.cells #[.int .i64 ax,.int .i64 ay] 26)).alloc (.cells #[.int .i64 bx,.int .i64 by_] 26)).allocT (a3r fa fb);simp only[World.size_alloc] at h1;rw[hW1];exact h1
 have kC:Blk W1 (w.heap.size+1+1) #[.int .i64 ax,.int .i64 ay] 26:=by
  have h1:=Blk.new ((w.alloc (.cells #[.int .i64 ax,.int .i64 ay] 26)).alloc (.cells #[.int .i64 bx,.int .i64 by_] 26)) #[.int .i64 ax,.int .i64 ay] 26;simp only[World.size_alloc] at h1;rw[hW1];exact h1
 have kA:Blk W1 w.heap.size #[.int .i64 ax,.int .i64 ay] 26:=by
  rw[hW1];exact ((Blk.new w _ _).alloc _).alloc _
 have kB:Blk W1 (w.heap.size+1) #[.int .i64 bx,.int .i64 by_] 26:=by
  have h1:=(Blk.new (w.alloc (.cells #[.int .i64 ax,.int .i64 ay] 26)) #[.int .i64 bx,.int .i64 by_] 26).alloc (.cells #[.int .i64 ax,.int .i64 ay] 26);simp only[World.size_alloc] at h1;rw[hW1];exact h1
 have sl1:SL (fun b=>S b∨b=w.heap.size+1+1) W1 26 (.slice (some ⟨w.heap.size+1+1,0,none⟩) 1 1) 1:=SL.blk (.inr rfl) kC (by show 1*2≤2;omega);clear hW1 kC;obtain⟨S1,hS1⟩:∃S1:BS,(fun b=>S b∨b=w.heap.size+1+1)=S1:=⟨_,rfl⟩;have nA:¬S1 w.heap.size:=by
  rw[←hS1];rintro (h|h)
  ·have:=hlt _ h;omega
  ·omega
 have nB:¬S1 (w.heap.size+1):=by
  rw[←hS1];rintro (h|h)
  ·have:=hlt _ h;omega
  ·omega
 have dA:w.heap.size≠D:=by omega
 have dB:w.heap.size+1≠D:=by omega
 rw[hS1] at hs1 sl1;clear hS1 hlt hDl;obtain⟨B4,hB4⟩:∃b,w.heap.size+1=b:=⟨_,rfl⟩;obtain⟨B5,hB5⟩:∃b,w.heap.size+1+1=b:=⟨_,rfl⟩;obtain⟨B3,hB3⟩:∃b,w.heap.size=b:=⟨_,rfl⟩;rw[hB4] at kB nB dB;rw[hB5] at sl1;rw[hB3] at kA nA dA;rw[hB5,hB4,hB3];clear hB5 hB4 hB3;go_upto_region 4 with (first
  |(go_at_call 73;refine (hs1.call 4 (by omega) (by omega)).mono ?_;rintro e W2⟨many,rfl,m0,m1,hs2,hg2,he2⟩;have kA2:=kA.kept hg2 (fun e=>dA (Option.some.inj e).symm);have kB2:=kB.kept hg2 (fun e=>dB (Option.some.inj e).symm);obtain⟨a0,a1,-,-⟩:=pt2 kA2;obtain⟨b0,b1,-,-⟩:=pt2 kB2)
  |(go_at_call 163;refine (d4j _ _ _ _ _).mono ?_;rintro e W3⟨⟨ux,uy,rfl,fu,fv⟩,hb3⟩)
  |fail)
 have hT3:=(hs2.up hb3).td.tw;have hs3:=(hs2.up hb3).alloc (.cells #[.int .i64 ux,.int .i64 uy] 26);have kU:=Blk.new W3 #[.int .i64 ux,.int .i64 uy] 26;have kA3:=(kA2.below hb3 kA2.lt).alloc (.cells #[.int .i64 ux,.int .i64 uy] 26);have kB3:=(kB2.below hb3 kB2.lt).alloc (.cells #[.int .i64 ux,.int .i64 uy] 26);have nU:¬S1 W3.heap.size:=fun hU=>Nat.lt_irrefl _ (hT3.lt hU)
 have dU:W3.heap.size≠D:=fun e=>by have:=(hs2.up hb3).td.lt;omega
 have sl3:=(Ev.of_below (X:=noB) hT3 ((zR _ _).alloc (yR _) (.cells #[.int .i64 ux,.int .i64 uy] 26))).sl ((Ev.of_below (X:=noB) hs2.td.tw hb3).sl (he2.sl sl1));obtain⟨BU,hBU⟩:∃b,W3.heap.size=b:=⟨_,rfl⟩;obtain⟨Wb,hWb⟩:∃W,W3.alloc (.cells #[.int .i64 ux,.int .i64 uy] 26)=W:=⟨_,rfl⟩;rw[hWb] at hs3 kU kA3 kB3 sl3;rw[hBU] at kU nU dU;rw[hBU,hWb];clear hBU hWb hT3 kA kB kA2 kB2 a0 a1 b0 b1 hs1 sl1 hs2 hg2 he2 hb3;obtain⟨v1,hv1⟩:∃v,Value.slice (some ⟨B5,0,none⟩) 1 1=v:=⟨_,rfl⟩;rw[hv1] at sl3;rw[hv1];clear hv1;obtain⟨M,rfl⟩:∃M:Nat,many=M:=⟨many.toNat,by omega⟩;go_wp2_with fail;go_loopw [7,10] (fun v kk wr=>∃(k:Nat) (S':BS) (n:Nat),1≤k∧k≤M+1∧kk= .int .i64 (k:Nat)∧n≤k∧SL S' wr 26 v n∧ST n₀ D sv xs S1 Wb S' wr) (fun _ kk _=>M+1-(intOf kk).toNat)
 case atStart=>exact⟨1,S1,1,by omega,by omega,rfl,by omega,sl3,hs3.td.st⟩
 case round =>
  obtain⟨k,S',n,hk1,hkM,rfl,hn,hsl,hst⟩:=hrel;obtain⟨kA,nA'⟩:=hst.blk0 kA3 nA dA;obtain⟨kB,nB'⟩:=hst.blk0 kB3 nB dB;obtain⟨kU',nU'⟩:=hst.blk0 kU nU dU;by_cases hlt:k≤M
  ·have hltI:(k:Int)≤(M:Int):=by omega
   have hM0:¬(M:Int)+1=0:=by omega
   have hMw:IntKind.i64.wrap ((M:Int)+1)=M+1:=a0u (by omega) (by omega);obtain⟨a0,a1,-,-⟩:=pt2 kA;obtain⟨b0,b1,-,-⟩:=pt2 kB;obtain⟨u0,u1,-,-⟩:=pt2 kU';go_upto_region 7 with fail;refine Go.wp_region_rel 22 (by kernel_rfl) (by kernel_rfl) (fun _ W=>WG7 wr B3 BU ax ay ux uy W) (fun w w'=>Below w.heap.size w w') (FWg wr B3 BU k M ax ay ux uy) (fun _ _ _ _ h g=>h.kept g) ⟨(zR _ _).drew,kA.drew,kU'.drew⟩ ?_ ?_
   ·clear hst hsl kA kB kU'
    intro i o hi ho c bb W hc hM hA hD K hK;match i,hi,ho with
    |0,_,ho =>
     cases ho;have f3:=a0a (v:= .pointer (some ⟨B3,0,none⟩)) (hA.at_ (k:=3) (by kernel_rfl));go_simp;exact hK (.pointer (some ⟨B3,0,none⟩)) W rfl (zR _ _) hM
    |1,_,ho =>
     cases ho;have f25:=a0a (v:= .pointer (some ⟨B3,0,none⟩)) (a0i hD 0 25 (by kernel_rfl) rfl rfl);have z0:W.cell? ⟨B3,0,none⟩=some (.int .i64 ax):=hM.a.cell 0;go_simp;exact hK (.int .i64 ax) W rfl (zR _ _) hM
    |2,_,ho =>
     cases ho;have f9:=a0a (v:= .pointer (some ⟨BU,0,none⟩)) (hA.at_ (k:=9) (by kernel_rfl));go_simp;exact hK (.pointer (some ⟨BU,0,none⟩)) W rfl (zR _ _) hM
    |3,_,ho =>
     cases ho;have f27:=a0a (v:= .pointer (some ⟨BU,0,none⟩)) (a0i hD 2 27 (by kernel_rfl) rfl rfl);have z0:W.cell? ⟨BU,0,none⟩=some (.int .i64 ux):=hM.u.cell 0;go_simp;exact hK (.int .i64 ux) W rfl (zR _ _) hM
    |4,_,ho =>
     cases ho;have f10:=a0a (v:= .int .i64 (k:Nat)) (hA.at_ (k:=10) (by kernel_rfl));go_simp;exact hK (.int .i64 (k:Nat)) W rfl (zR _ _) hM
    |5,_,ho =>
     cases ho;have f28:=a0a (v:= .int .i64 ux) (a0i hD 3 28 (by kernel_rfl) rfl rfl);have f29:=a0a (v:= .int .i64 (k:Nat)) (a0i hD 4 29 (by kernel_rfl) rfl rfl);go_simp;exact hK _ W ⟨_,rfl,(by first|with_reducible (first|exact a0j _|exact a0m _|assumption|exact a0n (by omega))|exact⟨by omega,by omega⟩)⟩ (zR _ _) hM
    |6,_,ho =>
     cases ho;have f8:=a0a (v:= .int .i64 (M:Nat)) (hA.at_ (k:=8) (by kernel_rfl));go_simp;exact hK (.int .i64 (M:Nat)) W rfl (zR _ _) hM
    |7,_,ho =>
     cases ho;have f31:=a0a (v:= .int .i64 (M:Nat)) (a0i hD 6 31 (by kernel_rfl) rfl rfl);go_simp;exact hK (.int .i64 ((M:Nat)+1)) W rfl (zR _ _) hM
    |8,_,ho =>
     cases ho;have f30:=a0i hD 5 30 (by kernel_rfl) rfl rfl;obtain⟨x30,e30,g30⟩:=f30;have f30:=a0a e30;have f32:=a0a (v:= .int .i64 ((M:Nat)+1)) (a0i hD 7 32 (by kernel_rfl) rfl rfl);go_simp;exact hK _ W ⟨_,rfl,(by first|with_reducible (first|exact a0j _|exact a0m _|assumption|exact a0n (by omega))|exact⟨by omega,by omega⟩)⟩ (zR _ _) hM
    |9,_,ho =>
     cases ho;have f26:=a0a (v:= .int .i64 ax) (a0i hD 1 26 (by kernel_rfl) rfl rfl);have f33:=a0i hD 8 33 (by kernel_rfl) rfl rfl;obtain⟨x33,e33,g33⟩:=f33;have f33:=a0a e33;go_simp;exact hK _ W ⟨_,rfl,(by first|with_reducible (first|exact a0j _|exact a0m _|assumption|exact a0n (by omega))|exact⟨by omega,by omega⟩)⟩ (zR _ _) hM
    |10,_,ho =>
     cases ho;have f3:=a0a (v:= .pointer (some ⟨B3,0,none⟩)) (hA.at_ (k:=3) (by kernel_rfl));go_simp;exact hK (.pointer (some ⟨B3,1,none⟩)) W rfl (zR _ _) hM
    |11,_,ho =>
     cases ho;have f35:=a0a (v:= .pointer (some ⟨B3,1,none⟩)) (a0i hD 10 35 (by kernel_rfl) rfl rfl);have z0:W.cell? ⟨B3,1,none⟩=some (.int .i64 ay):=hM.a.cell 1;go_simp;exact hK (.int .i64 ay) W rfl (zR _ _) hM
    |12,_,ho =>
     cases ho;have f9:=a0a (v:= .pointer (some ⟨BU,0,none⟩)) (hA.at_ (k:=9) (by kernel_rfl));go_simp;exact hK (.pointer (some ⟨BU,1,none⟩)) W rfl (zR _ _) hM
    |13,_,ho =>
     cases ho;have f37:=a0a (v:= .pointer (some ⟨BU,1,none⟩)) (a0i hD 12 37 (by kernel_rfl) rfl rfl);have z0:W.cell? ⟨BU,1,none⟩=some (.int .i64 uy):=hM.u.cell 1;go_simp;exact hK (.int .i64 uy) W rfl (zR _ _) hM
    |14,_,ho =>
     cases ho;have f10:=a0a (v:= .int .i64 (k:Nat)) (hA.at_ (k:=10) (by kernel_rfl));go_simp;exact hK (.int .i64 (k:Nat)) W rfl (zR _ _) hM
    |15,_,ho =>
     cases ho;have f38:=a0a (v:= .int .i64 uy) (a0i hD 13 38 (by kernel_rfl) rfl rfl);have f39:=a0a (v:= .int .i64 (k:Nat)) (a0i hD 14 39 (by kernel_rfl) rfl rfl);go_simp;exact hK _ W ⟨_,rfl,(by first|with_reducible (first|exact a0j _|exact a0m _|assumption|exact a0n (by omega))|exact⟨by omega,by omega⟩)⟩ (zR _ _) hM
    |16,_,ho =>
     cases ho;have f8:=a0a (v:= .int .i64 (M:Nat)) (hA.at_ (k:=8) (by kernel_rfl));go_simp;exact hK (.int .i64 (M:Nat)) W rfl (zR _ _) hM
    |17,_,ho =>
     cases ho;have f41:=a0a (v:= .int .i64 (M:Nat)) (a0i hD 16 41 (by kernel_rfl) rfl rfl);go_simp;exact hK (.int .i64 ((M:Nat)+1)) W rfl (zR _ _) hM
    |18,_,ho =>
     cases ho;have f40:=a0i hD 15 40 (by kernel_rfl) rfl rfl;obtain⟨x40,e40,g40⟩:=f40;have f40:=a0a e40;have f42:=a0a (v:= .int .i64 ((M:Nat)+1)) (a0i hD 17 42 (by kernel_rfl) rfl rfl);go_simp;exact hK _ W ⟨_,rfl,(by first|with_reducible (first|exact a0j _|exact a0m _|assumption|exact a0n (by omega))|exact⟨by omega,by omega⟩)⟩ (zR _ _) hM
    |19,_,ho =>
     cases ho;have f36:=a0a (v:= .int .i64 ay) (a0i hD 11 36 (by kernel_rfl) rfl rfl);have f43:=a0i hD 18 43 (by kernel_rfl) rfl rfl;obtain⟨x43,e43,g43⟩:=f43;have f43:=a0a e43;go_simp;exact hK _ W ⟨_,rfl,(by first|with_reducible (first|exact a0j _|exact a0m _|assumption|exact a0n (by omega))|exact⟨by omega,by omega⟩)⟩ (zR _ _) hM
    |20,_,ho =>
     cases ho;have f34:=a0i hD 9 34 (by kernel_rfl) rfl rfl;obtain⟨x34,e34,g34⟩:=f34;have f34:=a0a e34;have f44:=a0i hD 19 44 (by kernel_rfl) rfl rfl;obtain⟨x44,e44,g44⟩:=f44;have f44:=a0a e44;go_simp;exact hK _ W ⟨_,_,rfl,g34,g44⟩ (zR _ _) hM
    |21,_,ho =>
     cases ho;go_simp;exact hK (.pointer (some ⟨W.heap.size,0,none⟩)) _ ⟨_,rfl,hM.b.size,Blk.new _ _ _⟩ ((zR _ _).alloc (yR _) _) (hM.up ((zR _ _).alloc (yR _) _))
    |i+22,hi,_=>exact absurd hi (by omega)
   ·intro bb W hM hA hall
    obtain⟨X,Y,hP20,fX,fY⟩:=(show ∃X Y,bb.eval (.tmp 45)= .agg #[.int .i64 X,.int .i64 Y]∧a0k X∧a0k Y from hall 20 (by omega) _ _ rfl rfl);obtain⟨B,hP21,hBl,kB0⟩:=(show ∃B,bb.eval (.tmp 11)= .pointer (some ⟨B,0,none⟩)∧wr.heap.size≤B∧Blk W B #[.int .i64 0,.int .i64 0] 26 from hall 21 (by omega) _ _ rfl rfl);have hfr:=hA.frame [T,T,T,T,T,T,T,T,T,T,T,F,T,T,T,T,T,T,T,T,T,T,T,T,T,F,F,F,F,F,F,F,F,F,F,F,F,F,F,F,F,F,F,F,F,F,T,T,T,T,T,T,T,T,T,T,T,T,T,T,T,T,T,T,T,T,T,T,T,T,T,T,T,T,T,T] _ rfl (by kernel_rfl);clear hall hA;obtain⟨f,hf⟩:∃f:Nat→Value,(fun k=>bb.tmps.getD k undef)=f:=⟨_,rfl⟩;have g45:f 45= .agg #[.int .i64 X,.int .i64 Y]:=by rw[←hf,←hP20];rfl
    have g11:f 11= .pointer (some ⟨B,0,none⟩):=by rw[←hf,←hP21];rfl
    rw[hf] at hfr;clear hf hP20 hP21;subst hfr;simp only[a2k,g45,g11,Nat.reduceAdd];clear g45 g11;simp only[List.drop_succ_cons,List.drop_zero];have fr0:=kB0.frozen 0;have fr1:=kB0.frozen 1;obtain⟨q0,q1,-,-⟩:=pt2 kB0;go_upto_region 8 with fail;refine a0g (fun W5 hW5=> ?_);have hBb:Below wr.heap.size wr W5:=by
     rw[hW5];exact (hM.b.setCell (p:=⟨B,0,none⟩) hBl _).setCell (p:=⟨B,1,none⟩) hBl _
    have kP:Blk W5 B #[.int .i64 X,.int .i64 Y] 26:=by
     have h9:=(kB0.set 0 (.int .i64 X)).set 1 (.int .i64 Y);rw[hW5];simpa using h9
    clear hW5 q0 q1 fr0 fr1 kB0 hM a0 a1 b0 b1;have hst5:=hst.up hBb;have nP:¬S' B:=fun hB=>by have:=hst.td.tw.lt hB;omega
    have dP:B≠D:=fun e=>by have:=hst.td.lt;omega
    have kU5:=kU'.below hBb kU'.lt;have hsl5:=(Ev.of_below (X:=noB) hst.td.tw hBb).sl hsl;have hPW:Wb.heap.size≤B:=Nat.le_trans hst.ev.size hBl;clear u0 u1 hsl hBb hst;have hq0:¬IntKind.i64.wrap (1+IntKind.i64.wrap ((M:Int).tdiv 2))=0:=by
     rw[Int.tdiv_eq_ediv_of_nonneg (by omega),a0u (x:=(M:Int) / 2) (by omega) (by omega),a0u (by omega) (by omega)];omega
    have hq1:(M:Int).tdiv 2=(M:Int) / 2:=Int.tdiv_eq_ediv_of_nonneg (by omega);have hq2:0≤(M:Int) / 2∧(M:Int) / 2≤2:=by omega
    obtain⟨h2q,hh2q⟩:∃q,(M:Int).tdiv 2=q:=⟨_,rfl⟩;rw[←hq1] at hq2;rw[hh2q] at hq2 hq0;obtain⟨hq20,hq21⟩:=hq2;have hq3:¬1+h2q=0:=by omega
    clear hq1;by_cases huv:uy<ux
    all_goals
     go_upto_region 12 with (first
      |(go_at_call 73;refine (hst5.call 21 (by omega) (by omega)).mono ?_;rintro e W6⟨dr,rfl,r0,r1,hst6,hg6,he6⟩;have kP6:=kP.kept hg6 (fun e=>dP (Option.some.inj e).symm);have kU6:=kU5.kept hg6 (fun e=>dU (Option.some.inj e).symm);obtain⟨u0,u1,-,-⟩:=pt2 kU6;obtain⟨p0,p1,fr0,fr1⟩:=pt2 kP6)
      |fail)
     refine a0g (fun W7 hW7=> ?_);have hst7:ST n₀ D sv xs S1 Wb S' W7:=by
      rw[hW7];exact hst6.own hPW nP dP _ _
     have hsl7:SL S' W7 26 u7 n:=by
      rw[hW7];exact SL.mono (he6.sl hsl5) (fun _ h=>h) (Shp.set nP _ _)
     obtain⟨X',Y',fX',fY',kP7⟩:∃X' Y',a0k X'∧a0k Y'∧Blk W7 B #[.int .i64 X',.int .i64 Y'] 26:=by
      rw[hW7];first
       |exact⟨_,_,fX,a0j _,by simpa using kP6.set 1 (.int .i64 (wrap64 (Y+(dr-10).tdiv (1+h2q))))⟩
       |exact⟨_,_,a0j _,fY,by simpa using kP6.set 0 (.int .i64 (wrap64 (X+(dr-10).tdiv (1+h2q))))⟩
     obtain⟨p0,p1,-,-⟩:=pt2 kP7;clear hW7 hst6 kP6 kU6 u0 u1 kP kU5 hst5 fr0 fr1 hg6 he6 hsl5;go_wp2_with (first
      |(at_builtin;refine a0w hst7.td.tw (by rfl) _ _ 147 (by rfl) underlying147 a1k (by rfl) hsl7 (by rfl) rfl (a3r fX' fY') rfl (by omega) ?_;intro v9 S9 w9 hsl9 he9)
      |fail)
     go_roundw
     case rel=>exact⟨k+1,S9,n+1,by omega,by omega,by go_num,by omega,hsl9,hst7.evo he9⟩
     case measure=>simp[intOf];omega
  ·obtain rfl:k=M+1:=by omega
   have hge:¬((M:Int)+1≤(M:Int)):=by omega
   obtain⟨b0,b1,-,-⟩:=pt2 kB;go_wp2_with (first
    |(at_builtin;refine a0w hst.td.tw (by rfl) _ _ 147 (by rfl) underlying147 a1k (by rfl) hsl (by rfl) rfl (a3r fc fd) rfl (by omega) ?_;intro v9 S9 w9 hsl9 he9)
    |fail)
   go_ret;exact⟨S9,v9,rfl,n+1,hsl9,by omega,(hst.evo he9).td,(hs3.then_ (hst.evo he9).td (hst.evo he9).ev).ev⟩
end
end Go.Proofs.YtfocdbjceedagaaGreatDoor
