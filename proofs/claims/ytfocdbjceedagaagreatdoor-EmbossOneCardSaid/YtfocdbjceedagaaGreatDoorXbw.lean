/-
  Parts.
-/
import Derived.Test.YtfocdbjceedagaaGreatDoorXbv
set_option linter.unusedVariables false
set_option linter.unusedSimpArgs false
set_option maxHeartbeats 8000000
set_option maxRecDepth 100000
namespace Go.Proofs.YtfocdbjceedagaaGreatDoor
open Tryz
section
open Go Go.RowKit Go.Shelf Go.Lib
attribute [local go_sem] Oper.semAt_some
attribute [local go_sem ↓] Go.wp_at_zero Go.wp_at_succ
section
variable {P:Program}{α:Type}{E:El α}{st:TypeId}
theorem El.freshA (hE:E.Ok)(hI:E.In P st){ops:Array Oper}{rest:List Oper}{o:Oper}{a:Act}{w:World}{Q:Exit→Act→World→Prop}(hgd:o.guard=none)(s x:Operand)
 (ho:o.op= .call { callee:= .builtin .append,args:= #[s,x],argTypes:= #[st,st] }) (base Z:Nat) (hs:a.eval s= .slice (some ⟨Z,0,none⟩) 0 0) (hZ:w.ownsRow base E.t E.s (.slice (some ⟨Z,0,none⟩) 0 0) 0 []) {xv:Value} (l:List α) (hxv:a.eval x=xv) {n0:Nat} (hx:Lst E n0 w xv l) (hf:Frm xv l.length) (hl:l.length≤100000) (hb:base≤w.heap.size)
 (h:∀g c w',w'.ownsRow base E.t E.s (.slice (some ⟨g,0,none⟩) l.length c) l.length (l.flatMap E.enc)→Below w.heap.size w w'→wpList P ops Q rest (a.put o.dst (.slice (some ⟨g,0,none⟩) l.length c)) w') :
 wpList P ops Q (o::rest) a w :=
 wpList_plain hgd fun _ hK=>El.step_freshO hE hI s x ho base Z hs hZ xv l hxv hx hf hl hb fun v' w' h1 h2 ⟨g,c,e,_⟩=>hK _ _ (by subst e;exact h g c w' h1 h2)
end
structure InR (wr:World)(B14 g:Nat)(dx kx:Value)(c n:Nat)(R:List Lf)(X:World):Prop where
 b:Blk X B14 #[dx,kx,.slice (some ⟨g,0,none⟩) n c] 45
 r:X.ownsRow wr.heap.size 68 3 (.slice (some ⟨g,0,none⟩) n c) n (R.flatMap lfE.enc)
 len:R.length=n
 bel:Below wr.heap.size wr X
theorem InR.up {wr X X':World}{B14 g:Nat}{dx kx:Value}{c n:Nat}{R:List Lf}(h:InR wr B14 g dx kx c n R X)(hb:Below X.heap.size X X'):InR wr B14 g dx kx c n R X' :=
 ⟨h.b.below hb h.b.lt,a1l h.r hb,h.len,h.bel.trans (hb.mono h.bel.size)⟩
theorem InR.set {wr X:World}{B14 g:Nat}{dx kx:Value}{c n:Nat}{R:List Lf}(h:InR wr B14 g dx kx c n R X){p:Nat}(hp:p<n)(y:Lf) :
 InR wr B14 g dx kx c n (R.set p y) (((X.setCell ⟨g,p*3,none⟩ (.int .i64 y.p)).setCell ⟨g,p*3+1,none⟩ (.int .i64 y.k)).setCell ⟨g,p*3+2,none⟩ (.int .i64 y.i)):=by
 obtain⟨hb,hr,rfl,hbel⟩:=h;obtain⟨cl,kl⟩:∃c,Blk X g c 68:=a2c hr rfl;have hlo:wr.heap.size≤g:=c0z hr rfl;have g1:=a0h X g (p*3) (.int .i64 y.p);have r1:=El.setRow a7r hr hp (i:=0) (y:=⟨y.p,R[p].k,R[p].i⟩) (u:= .int .i64 y.p) (by decide) rfl;have k1:=kl.set (p*3) (.int .i64 y.p);rw[show (R.set p ⟨y.p,R[p].k,R[p].i⟩).length=R.length by simp] at r1;have r2:=El.setRow (l:=R.set p ⟨y.p,R[p].k,R[p].i⟩) a7r (by rw[List.length_set];exact r1) (p:=p) (by simpa using hp) (i:=1) (y:=⟨y.p,y.k,R[p].i⟩) (u:= .int .i64 y.k) (by decide) (by simp);have k2:=k1.set (p*3+1) (.int .i64 y.k);have r3:=El.setRow (l:=(R.set p ⟨y.p,R[p].k,R[p].i⟩).set p ⟨y.p,y.k,R[p].i⟩) a7r (by simpa using r2) (p:=p) (by simpa using hp) (i:=2) (y:=y) (u:= .int .i64 y.i) (by decide) (by simp);rw[List.set_set,List.set_set] at r3;have b1:=hb.keep g1 kl (by decide);have b2:=b1.keep (a0h _ g (p*3+1) (.int .i64 y.k)) k1 (by decide);have b3:=b2.keep (a0h _ g (p*3+2) (.int .i64 y.i)) k2 (by decide);exact⟨b3,by simpa using r3,by simp,((hbel.setCell (p:=⟨g,p*3,none⟩) hlo _).setCell (p:=⟨g,p*3+1,none⟩) hlo _).setCell (p:=⟨g,p*3+2,none⟩) hlo _⟩
abbrev q33 (zz0 zz1 zz2 zz3 zz4 zz5 zz6 zz7 zz8:Int):Array Value:= #[.int .i64 zz0,.int .i64 zz1,.int .i64 zz2,.int .i64 zz3,.int .i64 zz4,.int .i64 zz5,.int .i64 zz6,.int .i64 zz7,.int .i64 zz8]
def PlX (n:Nat)(v:Value)(W:World):Prop:=∃d k l pl,v=a2f d k l∧PlanIn W (a2f d k l) pl∧PlW n pl
theorem PlX.up {n:Nat}{v:Value}{W W':World}(h:PlX n v W)(hb:Below W.heap.size W W'):PlX n v W':=by
 obtain⟨d,k,l,pl,h1,h2,h3⟩:=h;exact⟨d,k,l,pl,h1,h2.up hb,h3⟩
structure OnR (wr:World)(B9 B11 BQ:Nat)(d9 k9 l9 r0 r1 r2:Value)(zz0 zz1 zz2 zz3 zz4 zz5 zz6 zz7 zz8:Int)(pl:Pn)(W:World):Prop where
 bel:Below wr.heap.size wr W
 p:Blk W B9 #[d9,k9,l9] 45
 r:Blk W B11 #[r0,r1,r2] 45
 q:Blk W BQ (q33 zz0 zz1 zz2 zz3 zz4 zz5 zz6 zz7 zz8) 59
 pi:PlanIn W (a2f d9 k9 l9) pl
 ri:PlX 0 (a2f r0 r1 r2) W
theorem OnR.up {wr W W':World}{B9 B11 BQ:Nat}{d9 k9 l9 r0 r1 r2:Value}{zz0 zz1 zz2 zz3 zz4 zz5 zz6 zz7 zz8:Int}{pl:Pn}(h:OnR wr B9 B11 BQ d9 k9 l9 r0 r1 r2 zz0 zz1 zz2 zz3 zz4 zz5 zz6 zz7 zz8 pl W)(hb:Below W.heap.size W W'):OnR wr B9 B11 BQ d9 k9 l9 r0 r1 r2 zz0 zz1 zz2 zz3 zz4 zz5 zz6 zz7 zz8 pl W' :=
 ⟨h.bel.trans (hb.mono h.bel.size),h.p.below hb h.p.lt,h.r.below hb h.r.lt,h.q.below hb h.q.lt,h.pi.up hb,h.ri.up hb⟩
theorem c1a {n:Nat}{v:Value}{pl:Pn}{W:World}(h:PlanIn W v pl)(hw:PlW n pl):PlX n v W:=by
 obtain⟨d,k,l,e,-⟩:=h.ex;exact⟨d,k,l,pl,e,e▸h,hw⟩
structure Pl4 (L:Nat)(W:World):Prop where
 at_:∀k,k<4→∃d q l,(W.cell? ⟨L,k*3,none⟩=some d∧W.cell? ⟨L,k*3+1,none⟩=some q∧W.cell? ⟨L,k*3+2,none⟩=some l)∧PlX 1 (a2f d q l) W
 lt:L<W.heap.size
theorem Pl4.up {L:Nat}{W W':World}(h:Pl4 L W)(hb:Below W.heap.size W W'):Pl4 L W' :=
 ⟨fun k hk=>by
  obtain⟨d,q,l,⟨h1,h2,h3⟩,h4⟩:=h.at_ k hk;exact⟨d,q,l,⟨a2z hb h1,a2z hb h2,a2z hb h3⟩,h4.up hb⟩,Nat.lt_of_lt_of_le h.lt hb.size⟩
theorem PlX.mono {n m:Nat}{v:Value}{W:World}(h:PlX n v W)(hn:n≤m):PlX m v W:=by
 obtain⟨d,k,l,pl,h1,h2,h3⟩:=h;exact⟨d,k,l,pl,h1,h2,h3.mono hn⟩
theorem Pl4.new {W:World}{r0 r1 r2 x0 x1 x2 y0 y1 y2 u0 u1 u2:Value}(hr:PlX 0 (a2f r0 r1 r2) W)(hx:PlX 1 (a2f x0 x1 x2) W)(hy:PlX 1 (a2f y0 y1 y2) W)(hu:PlX 1 (a2f u0 u1 u2) W) :
 Pl4 W.heap.size (W.alloc (.cells #[r0,r1,r2,x0,x1,x2,y0,y1,y2,u0,u1,u2] 45)):=by
 have k:=Blk.new W #[r0,r1,r2,x0,x1,x2,y0,y1,y2,u0,u1,u2] 45;have hb:Below W.heap.size W (W.alloc (.cells #[r0,r1,r2,x0,x1,x2,y0,y1,y2,u0,u1,u2] 45)):=(zR _ _).alloc (yR _) _;refine⟨fun i hi=> ?_,k.lt⟩;match i,hi with
 |0,_=>exact⟨_,_,_,⟨k.cell 0,k.cell 1,k.cell 2⟩,(hr.mono (Nat.zero_le _)).up hb⟩
 |1,_=>exact⟨_,_,_,⟨k.cell 3,k.cell 4,k.cell 5⟩,hx.up hb⟩
 |2,_=>exact⟨_,_,_,⟨k.cell 6,k.cell 7,k.cell 8⟩,hy.up hb⟩
 |3,_=>exact⟨_,_,_,⟨k.cell 9,k.cell 10,k.cell 11⟩,hu.up hb⟩
 |n+4,h=>omega
def FOp (wr:World)(B9 B11 BQ:Nat)(d9 k9 l9 r0 r1 r2:Value)(zz0 zz1 zz2 zz3 zz4 zz5 zz6 zz7 zz8:Int)(i:Nat)(v:Value)(w:World):Prop :=
 match i with
 |0=>v= .agg #[r0,r1,r2]
 |1=>v= .agg #[d9,k9,l9]
 |2=>v= .pointer (some ⟨BQ,0,none⟩)
 |3=>v= .agg #[.int .i64 zz0,.int .i64 zz1,.int .i64 zz2]
 |4=>PlX 1 v w
 |5=>v= .agg #[d9,k9,l9]
 |6=>v= .pointer (some ⟨BQ,3,none⟩)
 |7=>v= .agg #[.int .i64 zz3,.int .i64 zz4,.int .i64 zz5]
 |8=>PlX 1 v w
 |9=>v= .agg #[d9,k9,l9]
 |10=>v= .pointer (some ⟨BQ,6,none⟩)
 |11=>v= .agg #[.int .i64 zz6,.int .i64 zz7,.int .i64 zz8]
 |12=>PlX 1 v w
 |13=>∃L,v= .slice (some ⟨L,0,none⟩) 4 4∧Pl4 L w
 |14=>v= .int .i64 4
 |15=>v= .int .i64 0
 |_=>False
theorem FOp.kept {wr:World}{B9 B11 BQ:Nat}{d9 k9 l9 r0 r1 r2:Value}{zz0 zz1 zz2 zz3 zz4 zz5 zz6 zz7 zz8:Int}{i:Nat}{v:Value}{w w':World}(h:FOp wr B9 B11 BQ d9 k9 l9 r0 r1 r2 zz0 zz1 zz2 zz3 zz4 zz5 zz6 zz7 zz8 i v w)(hg:Below w.heap.size w w'):FOp wr B9 B11 BQ d9 k9 l9 r0 r1 r2 zz0 zz1 zz2 zz3 zz4 zz5 zz6 zz7 zz8 i v w':=by
 unfold FOp at *;split at h
 all_goals first|exact h|(exact h.up hg)|(obtain⟨L,h1,h2⟩:=h;exact⟨L,h1,h2.up hg⟩)
theorem d2e (la:Option Addr)(lcap:Nat)(rows:List (Value×List Int))(q0 q1 q2 b0 b1 b2 b3:Int)(raw:Sh)(zz0 zz1 zz2 zz3 zz4 zz5 zz6 zz7 zz8:Int)(fq0:a0k q0)(fq1:a0k q1)(fq2:a0k q2)(h0:0≤b0∧b0≤255)(h1:0≤b1∧b1≤255)(h2:0≤b2∧b2≤255)(h3:0≤b3∧b3≤255)(fx:a0k raw.ax)(fy:a0k raw.ay)(w:World)(hM:Mat w.heap.size w (.slice la rows.length lcap) rows)(hPow:Pow w) :
 Calls prog 6 #[.agg (a8w (.slice la rows.length lcap) q0 q1 q2 b0 b1 b2 b3 raw),.agg (q33 zz0 zz1 zz2 zz3 zz4 zz5 zz6 zz7 zz8)] w fun e w'=>e= .returned (.bool true)∧Below w.heap.size w w':=by
 have hsan:=fun (W:World) (hb:Below w.heap.size w W)=>c9l W (fun X h=>hPow.below (hb.trans (h.mono hb.size)))
 have hmad:=fun (W:World) (hb:Below w.heap.size w W)=>d2a la lcap rows q0 q1 q2 b0 b1 b2 b3 raw fq0 fq1 fq2 h0 h1 h2 h3 W ((hM.below hb).mono hb.size)
 obtain⟨fs0,fs1⟩:=b9w (a:=b0) (b:=b1) (c:=b2) (d:=b3) fx fy;go_enter func6,ntmps6;go_upto_region 1 with fail;have kC:=(Blk.new w (a8w (.slice la rows.length lcap) q0 q1 q2 b0 b1 b2 b3 raw) 30).alloc (.cells (q33 zz0 zz1 zz2 zz3 zz4 zz5 zz6 zz7 zz8) 59);have kQ:=Blk.new (w.alloc (.cells (a8w (.slice la rows.length lcap) q0 q1 q2 b0 b1 b2 b3 raw) 30)) (q33 zz0 zz1 zz2 zz3 zz4 zz5 zz6 zz7 zz8) 59;have hb0:Below w.heap.size w ((w.alloc (.cells (a8w (.slice la rows.length lcap) q0 q1 q2 b0 b1 b2 b3 raw) 30)).alloc (.cells (q33 zz0 zz1 zz2 zz3 zz4 zz5 zz6 zz7 zz8) 59)):=((zR _ _).alloc (yR _) _).alloc (by simp) _;obtain⟨W0,hW0⟩:∃W,(w.alloc (.cells (a8w (.slice la rows.length lcap) q0 q1 q2 b0 b1 b2 b3 raw) 30)).alloc (.cells (q33 zz0 zz1 zz2 zz3 zz4 zz5 zz6 zz7 zz8) 59)=W:=⟨_,rfl⟩;simp only[World.size_alloc] at kQ;rw[hW0] at kC kQ hb0 ⊢;clear hW0;go_upto_region 2 with (first
  |(go_at_call 8;(with_reducible refine (hsan _ hb0).mono ?_);rintro e w1⟨rfl,hb1⟩)
  |fail)
 have hbw1:=hb0.trans (hb1.mono hb0.size);have kC1:=kC.below hb1 kC.lt;have kQ1:=kQ.below hb1 kQ.lt;clear kC kQ hb1 hsan hb0;obtain⟨BQ,hBQ⟩:∃b,w.heap.size+1=b:=⟨_,rfl⟩;rw[hBQ] at kQ1 ⊢;obtain⟨c0,c1,c2,c3,c4,c5,c6,c7,c8,c9,c10,c11,c12,c13⟩:w1.cell? ⟨w.heap.size,0,none⟩=some (.slice la rows.length lcap)∧w1.cell? ⟨w.heap.size,1,none⟩=some (.int .i64 q0)∧w1.cell? ⟨w.heap.size,2,none⟩=some (.int .i64 q1)∧w1.cell? ⟨w.heap.size,3,none⟩=some (.int .i64 q2)∧w1.cell? ⟨w.heap.size,4,none⟩=some (.int .u8 b0)∧w1.cell? ⟨w.heap.size,5,none⟩=some (.int .u8 b1)∧w1.cell? ⟨w.heap.size,6,none⟩=some (.int .u8 b2)∧w1.cell? ⟨w.heap.size,7,none⟩=some (.int .u8 b3)∧w1.cell? ⟨w.heap.size,8,none⟩=some (.int .i64 raw.ax)∧w1.cell? ⟨w.heap.size,9,none⟩=some (.int .i64 raw.ay)∧w1.cell? ⟨w.heap.size,10,none⟩=some (.int .i64 raw.st)∧w1.cell? ⟨w.heap.size,11,none⟩=some (.int .i64 raw.w)∧w1.cell? ⟨w.heap.size,12,none⟩=some (.int .i64 raw.h)∧w1.cell? ⟨w.heap.size,13,none⟩=some (.int .i64 raw.g):=⟨kC1.cell 0,kC1.cell 1,kC1.cell 2,kC1.cell 3,kC1.cell 4,kC1.cell 5,kC1.cell 6,kC1.cell 7,kC1.cell 8,kC1.cell 9,kC1.cell 10,kC1.cell 11,kC1.cell 12,kC1.cell 13⟩;obtain⟨s,hsh⟩:∃s,a5v b0 b1 b2 b3 raw=s:=⟨_,rfl⟩;rw[hsh] at hmad fs0 fs1;clear hsh;go_upto_region 3 with (first
  |(go_at_call 9;(with_reducible refine (hmad _ hbw1).mono ?_);rintro e w2⟨ea,ne,ec,fa,nf,fc,wa,nw,wc,pa,pc,a1,m1,d1,a2,m2,d2,a3,m3,d3,a4,d4,l,ws,l2,ws2,rfl,hMo,hMd,hb2⟩)
  |fail)
 clear c0 c1 c2 c3 c4 c5 c6 c7 c8 c9 c10 c11 c12 c13 kC1 hmad;have km:=((Blk.new w2 #[.slice ea ne ec,.slice fa nf fc,.slice wa nw wc,.slice pa l.length pc] 37).alloc (.cells #[.slice a1 m1 d1,.slice a2 m2 d2,.slice a3 m3 d3,.slice a4 l2.length d4] 37)).alloc (.cells #[.int .i64 s.ax,.int .i64 s.ay,.int .i64 s.st,.int .i64 s.w,.int .i64 s.h,.int .i64 s.g] 28);have ko:=(Blk.new (w2.alloc (.cells #[.slice ea ne ec,.slice fa nf fc,.slice wa nw wc,.slice pa l.length pc] 37)) #[.slice a1 m1 d1,.slice a2 m2 d2,.slice a3 m3 d3,.slice a4 l2.length d4] 37).alloc (.cells #[.int .i64 s.ax,.int .i64 s.ay,.int .i64 s.st,.int .i64 s.w,.int .i64 s.h,.int .i64 s.g] 28);have ks:=Blk.new ((w2.alloc (.cells #[.slice ea ne ec,.slice fa nf fc,.slice wa nw wc,.slice pa l.length pc] 37)).alloc (.cells #[.slice a1 m1 d1,.slice a2 m2 d2,.slice a3 m3 d3,.slice a4 l2.length d4] 37)) #[.int .i64 s.ax,.int .i64 s.ay,.int .i64 s.st,.int .i64 s.w,.int .i64 s.h,.int .i64 s.g] 28;obtain⟨W3,hW3⟩:∃W,((w2.alloc (.cells #[.slice ea ne ec,.slice fa nf fc,.slice wa nw wc,.slice pa l.length pc] 37)).alloc (.cells #[.slice a1 m1 d1,.slice a2 m2 d2,.slice a3 m3 d3,.slice a4 l2.length d4] 37)).alloc (.cells #[.int .i64 s.ax,.int .i64 s.ay,.int .i64 s.st,.int .i64 s.w,.int .i64 s.h,.int .i64 s.g] 28)=W:=⟨_,rfl⟩;have hb23:Below w2.heap.size w2 W3:=by rw[←hW3];exact (((zR _ _).alloc (yR _) _).alloc (by simp) _).alloc (by simp;omega) _
 simp only[World.size_alloc] at ks ko;rw[hW3] at km ko ks ⊢;have hM3:=hMo.up hb23;have hO3:=hMd.up hb23;have hb13:=hb2.trans (hb23.mono hb2.size);have hbw3:=hbw1.trans (hb13.mono hbw1.size);have kQ3:=kQ1.below hb13 kQ1.lt;obtain⟨n2,hn2⟩:∃n,w2.heap.size=n:=⟨_,rfl⟩;rw[hn2] at km ko ks ⊢;clear hW3 hn2 hb23 hMo hMd hb2 hbw1 hM hb13 kQ1;have hP3:∀X,Below W3.heap.size W3 X→Pow X:=fun X h=>hPow.below (hbw3.trans (h.mono hbw3.size))
 clear hPow
 -- the boxes, wherever
 have hbox:∀X,Below W3.heap.size W3 X→(X.cell? ⟨n2,0,none⟩=some (.slice ea ne ec)∧X.cell? ⟨n2,1,none⟩=some (.slice fa nf fc)∧X.cell? ⟨n2,2,none⟩=some (.slice wa nw wc)∧X.cell? ⟨n2,3,none⟩=some (.slice pa l.length pc))∧(X.cell? ⟨n2+1,0,none⟩=some (.slice a1 m1 d1)∧X.cell? ⟨n2+1,1,none⟩=some (.slice a2 m2 d2)∧X.cell? ⟨n2+1,2,none⟩=some (.slice a3 m3 d3)∧X.cell? ⟨n2+1,3,none⟩=some (.slice a4 l2.length d4))∧(X.cell? ⟨n2+1+1,0,none⟩=some (.int .i64 s.ax)∧X.cell? ⟨n2+1+1,1,none⟩=some (.int .i64 s.ay)∧X.cell? ⟨n2+1+1,2,none⟩=some (.int .i64 s.st)∧X.cell? ⟨n2+1+1,3,none⟩=some (.int .i64 s.w)∧X.cell? ⟨n2+1+1,4,none⟩=some (.int .i64 s.h)∧X.cell? ⟨n2+1+1,5,none⟩=some (.int .i64 s.g)):=fun X h=>by
  have k1:=km.below h km.lt;have k2:=ko.below h ko.lt;have k3:=ks.below h ks.lt;exact⟨⟨k1.cell 0,k1.cell 1,k1.cell 2,k1.cell 3⟩,⟨k2.cell 0,k2.cell 1,k2.cell 2,k2.cell 3⟩,k3.cell 0,k3.cell 1,k3.cell 2,k3.cell 3,k3.cell 4,k3.cell 5⟩
 obtain⟨⟨m0,m1_,m2_,m3_⟩,⟨o0,o1,o2,o3⟩,s0,s1,s2,s3,s4,s5⟩:=hbox W3 (zR _ _);replace hbox:=Lib.hid hbox;clear km ko ks;have hl6:=hM3.len;by_cases hs:a1x s=0
 rotate_left 1
 ·have hD1:=fun X=>c0s s fs0 fs1 hs (.slice ea ne ec) (.slice fa nf fc) (.slice wa nw wc) pa l.length pc X
  have hD2:=fun X=>c0s s fs0 fs1 hs (.slice a1 m1 d1) (.slice a2 m2 d2) (.slice a3 m3 d3) a4 l2.length d4 X
  have hD3:=fun X=>c5u s fs0 fs1 hs (.slice ea ne ec) (.slice fa nf fc) (.slice wa nw wc) (.slice none 0 0) (.slice none 0 0) (.slice none 0 0) pa l.length pc X
  obtain⟨c,hc⟩:∃c,a1x s=c:=⟨_,rfl⟩;rw[hc] at hs hD1 hD2 hD3;have hc0:(c != 0)=true:=by simpa using hs
  clear hc;go_wp2_with (first
   |(go_at_call 10;(with_reducible refine (hD1 _).mono ?_);rintro e w4⟨rfl,hb4⟩
     have hb4':=hb4.alloc hb4.size (.cells #[.slice none 0 0,.slice none 0 0,.slice none 0 0] 45);have hz4:=hb4'.size;obtain⟨⟨m0,m1_,m2_,m3_⟩,⟨o0,o1,o2,o3⟩,s0,s1,s2,s3,s4,s5⟩:=hbox.out w4 hb4;clear hD1)
   |(go_at_call 10;(with_reducible refine (hD2 _).mono ?_);rintro e w5⟨rfl,hb5⟩
     have hb5':=hb4'.trans (hb5.mono hz4);obtain⟨⟨m0,m1_,m2_,m3_⟩,⟨o0,o1,o2,o3⟩,s0,s1,s2,s3,s4,s5⟩:=hbox.out w5 hb5';clear hD2)
   |(go_at_call 19;(with_reducible refine (hD3 _).mono ?_);rintro e w6⟨rfl,hb6⟩)
   |fail)
  go_ret;exact⟨rfl,hbw3.trans (((hb5'.alloc hb5'.size _).trans (hb6.mono (hb5'.alloc hb5'.size _).size)).mono hbw3.size)⟩
 have hok:∀p∈l,PcOk p∧p.cls.size≤1000:=fun p hp=>⟨hM3.ok.ok p hp,hM3.ok.cl p hp⟩
 have hMk:=a8o s fs0 fs1 hs (.slice ea ne ec) (.slice fa nf fc) (.slice wa nw wc) (.slice pa l.length pc) l ws W3 hM3.p hM3.frm (by omega) hok hM3.w (fun y hy=>(hM3.wo y hy).1) hM3.wl (fun y hy=>(hM3.wo y hy).2) hP3;have hpW:=d0n (a6o hs) (ws:=ws) (l:=l) (by omega) (fun p hp=>(hok p hp).1) (fun y hy=>(hM3.wo y hy).1);have hone:=fun x (hx:a7m s.g (pfS s) a5s x (wdF s ws) (a1d l)=0)=>c6p (wdF s ws) (c6g s ws) (a1d l) (fun q _=>c6h s q) (c2t hM3.ok) hx
 obtain⟨pl,hplE⟩:∃pl,a3f s ws (a1d l)=pl:=⟨_,rfl⟩;rw[hplE] at hMk hpW;simp only[show a1t s.g (pfS s) a5s (wdF s ws) (a1d l)=pl from hplE] at hone;replace hone:=Lib.hid hone;clear hplE;go_upto_region 4 with (first
  |(go_at_call 10;(with_reducible refine hMk.mono ?_);rintro e w4⟨v,rfl,hPi,hb4⟩
    obtain⟨d9,k9,l9,rfl,⟨hd_,-⟩,⟨hk_,-⟩,hl_,-⟩:=hPi.ex;obtain⟨da_,dc_,rfl,-⟩:=hd_.form;obtain⟨ka_,kc_,rfl,-⟩:=hk_.form;obtain⟨la_,lc_,rfl,-⟩:=hl_.form;clear hd_ hk_ hl_)
  |fail)
 obtain⟨d9,hd9⟩:∃v,Value.slice da_ pl.dots.length dc_=v:=⟨_,rfl⟩;obtain⟨k9,hk9⟩:∃v,Value.slice ka_ pl.keys.length kc_=v:=⟨_,rfl⟩;obtain⟨l9,hl9⟩:∃v,Value.slice la_ pl.left.length lc_=v:=⟨_,rfl⟩;rw[hd9,hk9,hl9] at hPi ⊢;clear hd9 hk9 hl9;have kb9:=Blk.new w4 #[d9,k9,l9] 45;have hbA:Below w4.heap.size w4 (w4.alloc (.cells #[d9,k9,l9] 45)):=(zR _ _).alloc (yR _) _;obtain⟨W4,hW4⟩:∃W,w4.alloc (.cells #[d9,k9,l9] 45)=W:=⟨_,rfl⟩;obtain⟨B9,hB9⟩:∃n,w4.heap.size=n:=⟨_,rfl⟩;rw[hW4] at kb9 hbA ⊢;have hb34:=hb4.trans (hbA.mono hb4.size);have hPi4:=hPi.up hbA;rw[hB9] at kb9 ⊢;clear hW4 hB9 hbA hb4 hPi hMk m0 m1_ m2_ m3_ o0 o1 o2 o3 s0 s1 s2 s3 s4 s5;have hMk2:=d2b s fs0 fs1 hs (.slice a1 m1 d1) (.slice a2 m2 d2) (.slice a3 m3 d3) (.slice a4 l2.length d4) l2 ws2 W4 (hO3.up hb34) (fun X hX=>hP3 X (hb34.trans (hX.mono hb34.size)));obtain⟨⟨m0,m1_,m2_,m3_⟩,⟨o0,o1,o2,o3⟩,s0,s1,s2,s3,s4,s5⟩:=hbox.out W4 hb34;go_upto_region 5 with (first
  |(go_at_call 10;(with_reducible refine hMk2.mono ?_);rintro e w5⟨v,rp,c,rfl,hRi,hRW,hb5⟩
    obtain⟨r0,r1,r2,rfl,⟨hd_,-⟩,⟨hk_,-⟩,hl_,-⟩:=hRi.ex;obtain⟨da_,dc_,rfl,-⟩:=hd_.form;obtain⟨ka_,kc_,rfl,-⟩:=hk_.form;obtain⟨la_,lc_,rfl,-⟩:=hl_.form;clear hd_ hk_ hl_)
  |fail)
 obtain⟨r0,hd9⟩:∃v,Value.slice da_ rp.dots.length dc_=v:=⟨_,rfl⟩;obtain⟨r1,hk9⟩:∃v,Value.slice ka_ rp.keys.length kc_=v:=⟨_,rfl⟩;obtain⟨r2,hl9⟩:∃v,Value.slice la_ rp.left.length lc_=v:=⟨_,rfl⟩;rw[hd9,hk9,hl9] at hRi ⊢;clear hd9 hk9 hl9;have kb11:=Blk.new w5 #[r0,r1,r2] 45;have hbA:Below w5.heap.size w5 (w5.alloc (.cells #[r0,r1,r2] 45)):=(zR _ _).alloc (yR _) _;obtain⟨W5,hW5⟩:∃W,w5.alloc (.cells #[r0,r1,r2] 45)=W:=⟨_,rfl⟩;obtain⟨B11,hB11⟩:∃n,w5.heap.size=n:=⟨_,rfl⟩;rw[hW5] at kb11 hbA ⊢;have hb45:=hb5.trans (hbA.mono hb5.size);have hb35:=hb34.trans (hb45.mono hb34.size);have hOn:OnR W5 B9 B11 BQ d9 k9 l9 r0 r1 r2 zz0 zz1 zz2 zz3 zz4 zz5 zz6 zz7 zz8 pl W5:=⟨zR _ _,kb9.below hb45 kb9.lt,hB11▸kb11,kQ3.below hb35 kQ3.lt,hPi4.up hb45,(c1a hRi hRW).up hbA⟩;rw[hB11] at kb11 ⊢;clear hW5 hB11 hbA hb5 hRi hRW hMk2 m0 m1_ m2_ m3_ o0 o1 o2 o3 s0 s1 s2 s3 s4 s5 hPi4 kb9 kb11 hb34 hb45 hO3 kQ3;go_upto_region 7 with fail;refine Go.wp_region_relA 16 (by kernel_rfl) (by kernel_rfl) (fun _ W=>OnR W5 B9 B11 BQ d9 k9 l9 r0 r1 r2 zz0 zz1 zz2 zz3 zz4 zz5 zz6 zz7 zz8 pl W) (fun w w'=>Below w.heap.size w w') (FOp W5 B9 B11 BQ d9 k9 l9 r0 r1 r2 zz0 zz1 zz2 zz3 zz4 zz5 zz6 zz7 zz8) (fun _ _ _ _ h g=>h.kept g) (hOn.up (zR _ _).drew) ?step7 ?tail7
 case step7 =>
  clear hOn hb35 hone hbox hP3 hM3 hok hbw3;intro i o hi ho c bb W hc hM hA hD K hK;match i,hi,ho with
  |0,_,ho =>
   cases ho;have f11:=a0a (v:= .pointer (some ⟨B11,0,none⟩)) (hA.at_ (k:=11) (by kernel_rfl));have z0:W.cell? ⟨B11,0,none⟩=some (r0):=hM.r.cell 0;have z1:W.cell? ⟨B11,1,none⟩=some (r1):=hM.r.cell 1;have z2:W.cell? ⟨B11,2,none⟩=some (r2):=hM.r.cell 2;go_simp;exact hK (.agg #[r0,r1,r2]) W rfl (zR _ _) hM
  |1,_,ho =>
   cases ho;have f9:=a0a (v:= .pointer (some ⟨B9,0,none⟩)) (hA.at_ (k:=9) (by kernel_rfl));have z0:W.cell? ⟨B9,0,none⟩=some (d9):=hM.p.cell 0;have z1:W.cell? ⟨B9,1,none⟩=some (k9):=hM.p.cell 1;have z2:W.cell? ⟨B9,2,none⟩=some (l9):=hM.p.cell 2;go_simp;exact hK (.agg #[d9,k9,l9]) W rfl (zR _ _) hM
  |2,_,ho =>
   cases ho;have f3:=a0a (v:= .pointer (some ⟨BQ,0,none⟩)) (hA.at_ (k:=3) (by kernel_rfl));go_simp;exact hK (.pointer (some ⟨BQ,0,none⟩)) W rfl (zR _ _) hM
  |3,_,ho =>
   cases ho;have f48:=a0a (v:= .pointer (some ⟨BQ,0,none⟩)) (a0i hD 2 48 (by kernel_rfl) rfl rfl);have z0:W.cell? ⟨BQ,0,none⟩=some (.int .i64 zz0):=hM.q.cell 0;have z1:W.cell? ⟨BQ,1,none⟩=some (.int .i64 zz1):=hM.q.cell 1;have z2:W.cell? ⟨BQ,2,none⟩=some (.int .i64 zz2):=hM.q.cell 2;go_simp;exact hK (.agg #[.int .i64 zz0,.int .i64 zz1,.int .i64 zz2]) W rfl (zR _ _) hM
  |4,_,ho =>
   cases ho;have f47:=a0a (v:= .agg #[d9,k9,l9]) (a0i hD 1 47 (by kernel_rfl) rfl rfl);have f49:=a0a (v:= .agg #[.int .i64 zz0,.int .i64 zz1,.int .i64 zz2]) (a0i hD 3 49 (by kernel_rfl) rfl rfl);go_simp;refine (b5k 0 (by omega) d9 k9 l9 zz0 zz1 zz2 pl W hM.pi hpW).mono ?_;rintro e W'⟨v,pl2,rfl,h1,h2,h3⟩;go_simp;exact hK v W' (c1a h1 h2) h3 (hM.up h3)
  |5,_,ho =>
   cases ho;have f9:=a0a (v:= .pointer (some ⟨B9,0,none⟩)) (hA.at_ (k:=9) (by kernel_rfl));have z0:W.cell? ⟨B9,0,none⟩=some (d9):=hM.p.cell 0;have z1:W.cell? ⟨B9,1,none⟩=some (k9):=hM.p.cell 1;have z2:W.cell? ⟨B9,2,none⟩=some (l9):=hM.p.cell 2;go_simp;exact hK (.agg #[d9,k9,l9]) W rfl (zR _ _) hM
  |6,_,ho =>
   cases ho;have f3:=a0a (v:= .pointer (some ⟨BQ,0,none⟩)) (hA.at_ (k:=3) (by kernel_rfl));go_simp;exact hK (.pointer (some ⟨BQ,3,none⟩)) W rfl (zR _ _) hM
  |7,_,ho =>
   cases ho;have f52:=a0a (v:= .pointer (some ⟨BQ,3,none⟩)) (a0i hD 6 52 (by kernel_rfl) rfl rfl);have z0:W.cell? ⟨BQ,3,none⟩=some (.int .i64 zz3):=hM.q.cell 3;have z1:W.cell? ⟨BQ,4,none⟩=some (.int .i64 zz4):=hM.q.cell 4;have z2:W.cell? ⟨BQ,5,none⟩=some (.int .i64 zz5):=hM.q.cell 5;go_simp;exact hK (.agg #[.int .i64 zz3,.int .i64 zz4,.int .i64 zz5]) W rfl (zR _ _) hM
  |8,_,ho =>
   cases ho;have f51:=a0a (v:= .agg #[d9,k9,l9]) (a0i hD 5 51 (by kernel_rfl) rfl rfl);have f53:=a0a (v:= .agg #[.int .i64 zz3,.int .i64 zz4,.int .i64 zz5]) (a0i hD 7 53 (by kernel_rfl) rfl rfl);go_simp;refine (b5k 0 (by omega) d9 k9 l9 zz3 zz4 zz5 pl W hM.pi hpW).mono ?_;rintro e W'⟨v,pl2,rfl,h1,h2,h3⟩;go_simp;exact hK v W' (c1a h1 h2) h3 (hM.up h3)
  |9,_,ho =>
   cases ho;have f9:=a0a (v:= .pointer (some ⟨B9,0,none⟩)) (hA.at_ (k:=9) (by kernel_rfl));have z0:W.cell? ⟨B9,0,none⟩=some (d9):=hM.p.cell 0;have z1:W.cell? ⟨B9,1,none⟩=some (k9):=hM.p.cell 1;have z2:W.cell? ⟨B9,2,none⟩=some (l9):=hM.p.cell 2;go_simp;exact hK (.agg #[d9,k9,l9]) W rfl (zR _ _) hM
  |10,_,ho =>
   cases ho;have f3:=a0a (v:= .pointer (some ⟨BQ,0,none⟩)) (hA.at_ (k:=3) (by kernel_rfl));go_simp;exact hK (.pointer (some ⟨BQ,6,none⟩)) W rfl (zR _ _) hM
  |11,_,ho =>
   cases ho;have f56:=a0a (v:= .pointer (some ⟨BQ,6,none⟩)) (a0i hD 10 56 (by kernel_rfl) rfl rfl);have z0:W.cell? ⟨BQ,6,none⟩=some (.int .i64 zz6):=hM.q.cell 6;have z1:W.cell? ⟨BQ,7,none⟩=some (.int .i64 zz7):=hM.q.cell 7;have z2:W.cell? ⟨BQ,8,none⟩=some (.int .i64 zz8):=hM.q.cell 8;go_simp;exact hK (.agg #[.int .i64 zz6,.int .i64 zz7,.int .i64 zz8]) W rfl (zR _ _) hM
  |12,_,ho =>
   cases ho;have f55:=a0a (v:= .agg #[d9,k9,l9]) (a0i hD 9 55 (by kernel_rfl) rfl rfl);have f57:=a0a (v:= .agg #[.int .i64 zz6,.int .i64 zz7,.int .i64 zz8]) (a0i hD 11 57 (by kernel_rfl) rfl rfl);go_simp;refine (b5k 0 (by omega) d9 k9 l9 zz6 zz7 zz8 pl W hM.pi hpW).mono ?_;rintro e W'⟨v,pl2,rfl,h1,h2,h3⟩;go_simp;exact hK v W' (c1a h1 h2) h3 (hM.up h3)
  |13,_,ho =>
   cases ho;have f46:=a0a (v:= .agg #[r0,r1,r2]) (a0i hD 0 46 (by kernel_rfl) rfl rfl);have f50:=a0i hD 4 50 (by kernel_rfl) rfl rfl;have f54:=a0i hD 8 54 (by kernel_rfl) rfl rfl;have f58:=a0i hD 12 58 (by kernel_rfl) rfl rfl;obtain⟨x0,x1,x2,xp,a1,a2,a3⟩:=f50;obtain⟨y0,y1,y2,yp,b1,b2,b3⟩:=f54;obtain⟨u0,u1,u2,up,c1,c2,c3⟩:=f58;have e50:=a0a a1;have e54:=a0a b1;have e58:=a0a c1;go_simp;exact hK (.slice (some ⟨W.heap.size,0,none⟩) 4 4) _ ⟨_,rfl,Pl4.new hM.ri ⟨_,_,_,_,rfl,a2,a3⟩ ⟨_,_,_,_,rfl,b2,b3⟩ ⟨_,_,_,_,rfl,c2,c3⟩⟩ ((zR _ _).alloc (yR _) _) (hM.up ((zR _ _).alloc (yR _) _))
  |14,_,ho =>
   cases ho;have f59:=a0i hD 13 59 (by kernel_rfl) rfl rfl;obtain⟨L,h1,-⟩:=f59;have e59:=a0a h1;go_simp;exact hK (.int .i64 4) W rfl (zR _ _) hM
  |15,_,ho =>
   cases ho;go_simp;exact hK (.int .i64 0) W rfl (zR _ _) hM
  |i+16,hi,_=>exact absurd hi (by omega)
 case tail7 =>
  intro bb W6 hM hA hall;obtain⟨L,h59,hP4⟩:=(show ∃L,bb.eval (.tmp 59)= .slice (some ⟨L,0,none⟩) 4 4∧Pl4 L W6 from hall 13 (by omega) _ _ rfl rfl);have h60:bb.eval (.tmp 60)= .int .i64 4:=hall 14 (by omega) _ _ rfl rfl;have h61:bb.eval (.tmp 61)= .int .i64 0:=hall 15 (by omega) _ _ rfl rfl;have hfr:=hA.frame [T,T,T,T,T,T,T,T,T,T,T,T,T,T,T,T,T,T,T,T,T,T,T,T,T,T,T,T,T,T,T,T,T,T,T,T,T,T,T,T,T,T,T,T,T,T,F,F,F,F,F,F,F,F,F,F,F,F,F,F,F,F,T,T,T,T,T,T,T,T,T,T,T,T,T,T,T,T,T,T,T,T,T,T,T,T,T,T,T,T,T,T,T,T,T,T,T,T,T,T,T,T,T,T,T,T,T,T,T,T,T,T,T,T,T,T,T] _ rfl (by kernel_rfl);clear hall hA;obtain⟨f,hf⟩:∃f:Nat→Value,(fun k=>bb.tmps.getD k undef)=f:=⟨_,rfl⟩;have g59:f 59= .slice (some ⟨L,0,none⟩) 4 4:=by rw[←hf,←h59];rfl
  have g60:f 60= .int .i64 4:=by rw[←hf,←h60];rfl
  have g61:f 61= .int .i64 0:=by rw[←hf,←h61];rfl
  rw[hf] at hfr;clear hf h59 h60 h61;subst hfr;simp only[a2k,g59,g60,g61,Nat.reduceAdd];clear g59 g60 g61;simp only[List.drop_succ_cons,List.drop_zero];have hb36:=hb35.trans (hM.bel.mono hb35.size);have hbw6:=hbw3.trans (hb36.mono hbw3.size);have hp9:=hM.p;have hpi9:=hM.pi;clear hM hOn hb35;go_wp2_with fail;go_loopw [61] (fun i wr=>∃k:Nat,k≤4∧i= .int .i64 (k:Nat)∧Below W6.heap.size W6 wr) (fun i _=>4-(intOf i).toNat)
  case atStart=>exact⟨0,by omega,rfl,zR _ _⟩
  case round =>
   obtain⟨k,hk4,rfl,hbr⟩:=hrel;have hb3r:=hb36.trans (hbr.mono hb36.size);by_cases hlt:k<4
   ·have hltI:(k:Int)<4:=by omega
    obtain⟨dx,kx,lx,⟨c0,c1,c2⟩,xd,xk,xl,xp,hxe,hxi,hxw⟩:=(hP4.up hbr).at_ k hlt
    cases hxe;obtain⟨xd',xk',xl',xe',⟨hd_,-⟩,⟨hk_,-⟩,hxl,hxf⟩:=hxi.ex
    cases xe';obtain⟨xa,xc,rfl,-⟩:=hxl.form;obtain⟨da_,dc_,rfl,-⟩:=hd_.form;obtain⟨ka_,kc_,rfl,-⟩:=hk_.form;clear hd_ hk_;have kb14:=Blk.new wr #[.slice da_ xp.dots.length dc_,.slice ka_ xp.keys.length kc_,.slice xa xp.left.length xc] 45;have hbA:Below wr.heap.size wr (wr.alloc (.cells #[.slice da_ xp.dots.length dc_,.slice ka_ xp.keys.length kc_,.slice xa xp.left.length xc] 45)):=(zR _ _).alloc (yR _) _;go_upto_region 10 with fail;obtain⟨dx,hd9⟩:∃v,Value.slice da_ xp.dots.length dc_=v:=⟨_,rfl⟩;obtain⟨kx,hk9⟩:∃v,Value.slice ka_ xp.keys.length kc_=v:=⟨_,rfl⟩;rw[hd9,hk9] at hxi kb14 hbA ⊢;clear hd9 hk9;obtain⟨W8,hW8⟩:∃W,wr.alloc (.cells #[dx,kx,.slice xa xp.left.length xc] 45)=W:=⟨_,rfl⟩;obtain⟨B14,hB14⟩:∃n,wr.heap.size=n:=⟨_,rfl⟩;rw[hW8] at kb14 hbA ⊢;have hb38:=hb3r.trans (hbA.mono hb3r.size);have hb68:=hbr.trans (hbA.mono hbr.size);have hxi8:=hxi.up hbA;have hxl8:=hxl.up hbA;rw[hB14] at kb14 ⊢;obtain⟨⟨m0,m1_,m2_,m3_⟩,-,s0,s1,s2,s3,s4,s5⟩:=hbox.out W8 hb38;obtain⟨r,hr⟩:∃r,a7m s.g (pfS s) a5s xp (wdF s ws) (a1d l)=r:=⟨_,rfl⟩;have hM8:=hM3.up hb38;have hCk:=a5g s fs0 fs1 hs (.slice ea ne ec) (.slice fa nf fc) (.slice wa nw wc) (.slice pa l.length pc) _ l ws xp W8 hM8.p hM8.frm (by omega) hok hM8.w (fun y hy=>(hM8.wo y hy).1) hM8.wl (fun y hy=>(hM8.wo y hy).2) (fun Y hY=>hP3 Y (hb38.trans (hY.mono hb38.size))) hxi8 (hxw.sm (by omega)) hxw.dl hxw.lf r hr;obtain⟨x0,x1,x2⟩:W8.cell? ⟨B14,0,none⟩=some dx∧W8.cell? ⟨B14,1,none⟩=some kx∧W8.cell? ⟨B14,2,none⟩=some (.slice xa xp.left.length xc):=⟨kb14.cell 0,kb14.cell 1,kb14.cell 2⟩;clear c0 c1 c2 hW8 hM8 hxl hxi8;by_cases hr0:r=0
    rotate_left 1
    ·have hrb:(r != 0)=true:=by simpa using hr0
     clear hr;go_wp2_with (first
      |(go_at_call 19;(with_reducible refine hCk.mono ?_);rintro e w9⟨rfl,hb9⟩)
      |fail)
     go_roundw
     case rel=>exact⟨k+1,by omega,by go_num,hb68.trans (hb9.mono hb68.size)⟩
     case measure=>first|(simp[intOf];done)|(simp[intOf];omega)
    ·subst hr0
     obtain⟨hdE,hkE,hlE⟩:=hone.out xp hr;have hlen:=Lib.hid (show xp.left.length=pl.left.length by have:=congrArg List.length hlE;simpa using this);replace hlE:=Lib.hid hlE;replace hdE:=Lib.hid hdE;replace hkE:=Lib.hid hkE;have hxlw:xp.left.length≤600:=by have:=hxw.ll;omega
     have k14l:=kb14.lt;clear hr;go_upto_region 11 with (first
      |(go_at_call 19;(with_reducible refine hCk.mono ?_);rintro e w9⟨rfl,hb9⟩)
      |fail)
     have hb69:=hb68.trans (hb9.mono hb68.size);have k9x:=kb14.below hb9 kb14.lt;have hbr9:=hbA.trans (hb9.mono hbA.size);have hxl9:=hxl8.up hb9;obtain⟨x0,x1,x2⟩:w9.cell? ⟨B14,0,none⟩=some dx∧w9.cell? ⟨B14,1,none⟩=some kx∧w9.cell? ⟨B14,2,none⟩=some (.slice xa xp.left.length xc):=⟨k9x.cell 0,k9x.cell 1,k9x.cell 2⟩;have y2:=k9x.frozen 2;have hzr:=hbr9.size;clear m0 m1_ m2_ m3_ s0 s1 s2 s3 s4 s5 kb14 hb9 hb68 hb38 hbA hCk hxl8;go_upto_region 12 with (first
      |(at_builtin;refine El.freshA a7r d2g (by rfl) _ _ (by rfl) wr.heap.size w9.heap.size (by rfl) (a6b (Blk.new w9 #[] 68) hzr) xp.left (by rfl) (hxl9.up ((zR _ _).alloc (yR _) _)) hxf (by omega) (by simp;omega) ?_;intro g c wA hrA hbA
        have kxA:=(k9x.alloc (.cells #[] 68)).below hbA (by simp;exact Nat.lt_succ_of_lt k9x.lt);have x2A:wA.cell? ⟨B14,2,none⟩=some (.slice xa xp.left.length xc):=kxA.cell 2;have y2A:=kxA.frozen 2)
      |fail)
     have hle14:wr.heap.size≤B14:=by omega
     have hAr:Below wr.heap.size wr wA:=hbr9.trans ((((zR w9.heap.size w9).alloc (yR _) (.cells #[] 68)).trans (hbA.mono (by simp))).mono hbr9.size);have hIA:InR wr B14 g dx kx c xp.left.length xp.left (wA.setCell ⟨B14,2,none⟩ (.slice (some ⟨g,0,none⟩) xp.left.length c)):=⟨kxA.set 2 _,a1f hrA (a0h wA B14 2 _) kxA (by decide),rfl,hAr.setCell (p:=⟨B14,2,none⟩) hle14 _⟩;obtain⟨WI,hWI⟩:∃W,wA.setCell ⟨B14,2,none⟩ (.slice (some ⟨g,0,none⟩) xp.left.length c)=W:=⟨_,rfl⟩;rw[hWI] at hIA ⊢;have hpI:=hpi9.up hbr;have kI:=hp9.below hbr hp9.lt;obtain⟨_,_,_,e_,-,-,hl9,-⟩:=hpI.ex
     cases e_;obtain⟨ya,yc,hl9e,-⟩:=hl9.form;have hen:=hlen.out;rw[←hen] at hl9e;obtain⟨n,hn⟩:∃n,xp.left.length=n:=⟨_,rfl⟩;have hn2_:pl.left.length=n:=by rw[←hen,hn]
     rw[hn] at hIA hl9e hxlw ⊢;have hl9c:Lst lfE _ _ (.slice ya n yc) pl.left:=hl9e▸hl9;have hPl:∀j,j<n→∃(h1:j<xp.left.length) (h2:j<pl.left.length),xp.left[j].p=pl.left[j].p:=fun j hj=>by
      have h:=congrArg (fun t:List Int=>t[j]?) hlE.out;refine⟨by omega,by omega,?_⟩;simpa [show j<xp.left.length by omega,show j<pl.left.length by omega] using h
     obtain⟨q0_,q1_,q2_⟩:WI.cell? ⟨B9,0,none⟩=some d9∧WI.cell? ⟨B9,1,none⟩=some k9∧WI.cell? ⟨B9,2,none⟩=some (.slice ya n yc):=(fun k:Blk WI B9 #[d9,k9,.slice ya n yc] 45=>⟨k.cell 0,k.cell 1,k.cell 2⟩) (hl9e▸kI.below hIA.bel kI.lt);replace hl9e:=Lib.hid hl9e;have x2:WI.cell? ⟨B14,2,none⟩=some (.slice (some ⟨g,0,none⟩) n c):=hIA.b.cell 2;have hIn:(n:Int)≤600:=by omega
     replace hn:=Lib.hid hn;replace hn2_:=Lib.hid hn2_;replace hen:=Lib.hid hen;clear x0 x1 y2 k9x hbr9 hxl9 hbA kxA x2A y2A hrA hWI hAr hp9 hpi9 hxf hb3r hb69;go_upto_region 14 with fail;go_wp2_with fail;go_loopw [85] (fun jj wi=>∃j:Nat,j≤n∧jj= .int .i64 (j:Nat)∧InR wr B14 g dx kx c n (pl.left.take j++xp.left.drop j) wi) (fun jj _=>n-(intOf jj).toNat)
     case atStart=>exact⟨0,Nat.zero_le _,rfl,by rw[List.take_zero,List.drop_zero];exact hIA⟩
     case round =>
      obtain⟨j,hj,rfl,hI⟩:=hrel;clear hIA q0_ q1_ q2_ x2;have hkX:Blk wr B9 #[d9,k9,.slice ya n yc] 45:=hl9e.out▸kI.below hI.bel kI.lt;have hlX:=hl9c.up hI.bel;obtain⟨q0_,q1_,q2_⟩:wr.cell? ⟨B9,0,none⟩=some d9∧wr.cell? ⟨B9,1,none⟩=some k9∧wr.cell? ⟨B9,2,none⟩=some (.slice ya n yc):=⟨hkX.cell 0,hkX.cell 1,hkX.cell 2⟩;obtain⟨x0,x1,x2⟩:wr.cell? ⟨B14,0,none⟩=some dx∧wr.cell? ⟨B14,1,none⟩=some kx∧wr.cell? ⟨B14,2,none⟩=some (.slice (some ⟨g,0,none⟩) n c):=⟨hI.b.cell 0,hI.b.cell 1,hI.b.cell 2⟩;by_cases hjn:j<n
      ·have hjI:(j:Int)<(n:Int):=by omega
       obtain⟨hj1,hj2,hpe⟩:=hPl j hjn;obtain⟨b',off',cap',hv,-,-,hc⟩:=hlX.some_ (by omega);rw[hn2_.out] at hv;simp only[Value.slice.injEq,true_and] at hv;obtain⟨rfl,rfl⟩:=hv;replace hl9e:=hl9e.out;clear hl9e;have hcj:=hc j hj2;obtain⟨y,hy⟩:∃y,pl.left[j]=y:=⟨_,rfl⟩;have hr:=hI.r;rw[←hI.len] at hr;have hRj:j<(pl.left.take j++xp.left.drop j).length:=by rw[hI.len];exact hjn
       have hRe:(pl.left.take j++xp.left.drop j)[j]=xp.left[j]:=by
        rw[List.getElem_append_right (by rw[List.length_take];omega)];simp[List.length_take,Nat.min_eq_left (Nat.le_of_lt hj2)]
       obtain⟨c0,z0⟩:=a4j (E:=lfE) a7r hr (by rw[hI.len];omega) hRj (i:=0) (by decide);obtain⟨c1,z1⟩:=a4j (E:=lfE) a7r hr (by rw[hI.len];omega) hRj (i:=1) (by decide);obtain⟨c2,z2⟩:=a4j (E:=lfE) a7r hr (by rw[hI.len];omega) hRj (i:=2) (by decide);rw[hRe] at c0 c1 c2;rw[hy] at hcj hpe;have hst:InR _ B14 g dx kx c n (pl.left.take (j+1)++xp.left.drop (j+1)) _:=(by
        have h:=hI.set hjn y;rwa [show (pl.left.take j++xp.left.drop j).set j y=pl.left.take (j+1)++xp.left.drop (j+1) from by
         rw[List.set_append_right _ _ (by rw[List.length_take];omega),List.take_succ_eq_append_getElem hj2,hy,List.length_take,Nat.min_eq_left (Nat.le_of_lt hj2),Nat.sub_self,List.drop_eq_getElem_cons hj1,List.set_cons_zero,List.append_assoc,List.singleton_append]] at h)
       obtain⟨x,hx⟩:∃x,xp.left[j]=x:=⟨_,rfl⟩;rw[hx] at hpe c0 c1 c2;replace c0:wr.cell? ⟨g,j*3,none⟩=some (.int .i64 y.p):=by rw[←hpe];exact c0
       replace c1:wr.cell? ⟨g,j*3+1,none⟩=some (.int .i64 x.k):=c1;replace c2:wr.cell? ⟨g,j*3+2,none⟩=some (.int .i64 x.i):=c2;replace z0:wr.frozen? ⟨g,j*3,none⟩=false:=z0;replace z1:wr.frozen? ⟨g,j*3+1,none⟩=false:=z1;replace z2:wr.frozen? ⟨g,j*3+2,none⟩=false:=z2;obtain⟨e0,e1,e2⟩:wr.cell? ⟨b',off'+j*3,none⟩=some (.int .i64 y.p)∧wr.cell? ⟨b',off'+j*3+1,none⟩=some (.int .i64 y.k)∧wr.cell? ⟨b',off'+j*3+2,none⟩=some (.int .i64 y.i):=⟨hcj 0 (show 0<3 by decide),hcj 1 (show 1<3 by decide),hcj 2 (show 2<3 by decide)⟩;clear hcj hc hr hRe hRj hx hy hpe hj1 hj2 hlX hkX hI;go_wp2_with fail;first|with_reducible refine a0t (by kernel_rfl) (by kernel_rfl) ?_|with_reducible refine a0v (by kernel_rfl) (by kernel_rfl) ?_
       repeat (first|go_big_quiet_step (fail)|quiet_step (fail))
       refine wpQuiet_nil ?_;intro _ hw_;obtain⟨p,hw_⟩:=hw_;subst hw_;go_upto_region 19 with fail;first|with_reducible refine a0c 8 (by kernel_rfl) (by kernel_rfl) ?_|with_reducible refine a0d 8 (by kernel_rfl) (by kernel_rfl) ?_
       simp only[List.take_succ_cons,List.take_zero,List.drop_succ_cons,List.drop_zero];repeat (first|go_big_quiet_step (fail)|quiet_step (fail))
       refine wpQuiet_nil ?_;intro _ hw_;obtain⟨p,hw_⟩:=hw_;subst hw_;go_wp2_with fail;go_roundw
       case rel=>exact⟨j+1,by omega,by go_num,hst.up (Go.below_growBy _ _)⟩
       case measure=>first|(simp[intOf];done)|(simp[intOf];omega)
      ·obtain rfl:j=n:=by omega
       have hge:¬(j:Int)<(j:Int):=by omega
       rw[show pl.left.take j++xp.left.drop j=pl.left by rw[List.take_of_length_le (by rw[hn2_.out];exact yR _),List.drop_eq_nil_of_le (by rw[hn.out];exact yR _),List.append_nil]] at hI;have hpX:=(hxi.up hI.bel).ex;obtain⟨_,_,_,e_,hdX,hkX2,-,-⟩:=hpX
       cases e_;have hrL:=hI.r;have hsame:=a8p _ _ ⟨xp.dots,xp.keys,pl.left⟩ pl wr ⟨_,_,_,rfl,hdX,hkX2,by
        have h:=a0b (E:=lfE) (l:=pl.left) a7r (by rw[hn2_.out];exact hrL) (by rw[hn2_.out];omega);exact h,by rw[hn2_.out];exact a2b hrL⟩ (hl9e.out▸hpI.up hI.bel:PlanIn wr (a2f d9 k9 (.slice ya j yc)) pl)
       rw[show c2c ⟨xp.dots,xp.keys,pl.left⟩ pl=true by simp[c2c,hdE.out,hkE.out]] at hsame;have hbI:=hI.bel;clear hI hrL hdX hkX2 hlX hkX;go_wp2_with (first
        |(go_at_call 21;(with_reducible refine hsame.mono ?_);rintro e wS⟨rfl,hbS⟩)
        |fail)
       go_roundw
       case rel=>exact⟨k+1,by omega,by go_num,hbr.trans ((hbI.trans (hbS.mono hbI.size)).mono hbr.size)⟩
       case measure=>first|(simp[intOf];done)|(simp[intOf];omega)
   ·obtain rfl:k=4:=by omega
    go_wp2_with fail;go_ret;exact⟨rfl,hbw6.trans (hbr.mono hbw6.size)⟩
end
end Go.Proofs.YtfocdbjceedagaaGreatDoor
