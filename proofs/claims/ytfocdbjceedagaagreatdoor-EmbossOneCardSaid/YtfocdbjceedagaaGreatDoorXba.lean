/-
  Parts.
-/
import Derived.Test.YtfocdbjceedagaaGreatDoorXaz
import Derived.Test.YtfocdbjceedagaaGreatDoorXbd
set_option linter.unusedVariables false
set_option linter.unusedSimpArgs false
set_option maxHeartbeats 4000000
set_option maxRecDepth 100000
namespace Go.Proofs.YtfocdbjceedagaaGreatDoor
open Tryz
section
open Go Go.RowKit Go.Shelf Go.Lib
attribute [local go_sem] Oper.semAt_some
attribute [local go_sem ↓] Go.wp_at_zero Go.wp_at_succ
theorem a5x {α:Type}{E:El α}(hE:E.Ok){W:World}{base B:Nat}{l:List α}(h:Blk W B (l.flatMap E.enc).toArray E.t)(hb:base≤B)(hl:l.length≤1000000):W.ownsRow base E.t E.s (.slice (some ⟨B,0,none⟩) l.length l.length) l.length (l.flatMap E.enc):=by
 refine⟨a1c hE l,.inr ⟨B,l.length,(l.flatMap E.enc).toArray,rfl,hb,h,yR _,by unfold maxLen;omega,by simp[a1c hE l],?_⟩⟩;rw[←a1c hE l];exact List.take_length
theorem PlanIn.up {W W':World}{v:Value}{p:Pn}(h:PlanIn W v p)(hb:Below W.heap.size W W'):PlanIn W' v p:=by
 obtain⟨dv,kv,lv,rfl,⟨h1,h2⟩,⟨h3,h4⟩,h5,h6⟩:=h.ex;exact⟨dv,kv,lv,rfl,⟨h1.up hb,h2⟩,⟨h3.up hb,h4⟩,h5.up hb,h6⟩
theorem d3b (p1 k1 i1:Int)(p2 k2 i2:Int)(w:World):(binOp .eql 68 (.agg #[.int .i64 p1,.int .i64 k1,.int .i64 i1]) (.agg #[.int .i64 p2,.int .i64 k2,.int .i64 i2])).run prog w= .ok (.bool (decide ((⟨p1,k1,i1⟩:Lf)=⟨p2,k2,i2⟩))) w:=by
 have u3:=underlying3;have a3:=isAgg3;have z3:=sizeOf3;have hS:prog.underlying 68=some (.struct (prog.fieldsOf 68)):=by kernel_rfl
 have hp:prog.stoodInHeld 68=false:=by kernel_rfl
 rw[run_eql_struct,show (10000:Nat)=9999+1 from rfl,run_equalIn_agg w 9999 68 _ _ hS hp];simp only[Program.fieldsOf,underlying68];go_simp;by_cases h1:p1=p2 <;> by_cases h2:k1=k2 <;> by_cases h3:i1=i2 <;> simp[h1,h2,h3]
structure San (n1 B b3:Nat)(da ka la:Option Addr)(dc kc lc:Nat)(W:World):Prop where
 m:Blk W n1 #[.slice none 0 0,.slice none 0 0,.slice none 0 0,.slice (some ⟨B,0,none⟩) 4 4] 37
 s:Blk W (n1+1) #[.int .i64 exS30.ax,.int .i64 exS30.ay,.int .i64 exS30.st,.int .i64 exS30.w,.int .i64 exS30.h,.int .i64 exS30.g] 28
 p:Blk W b3 #[.slice da 17 dc,.slice ka 2 kc,.slice la 2 lc] 45
 L:Lst plE W.heap.size W (.slice (some ⟨B,0,none⟩) 4 4) exL
 P:PlanIn W (a2f (.slice da 17 dc) (.slice ka 2 kc) (.slice la 2 lc)) exPl
theorem San.up {n1 B b3:Nat}{da ka la:Option Addr}{dc kc lc:Nat}{W W':World}(h:San n1 B b3 da ka la dc kc lc W)(hb:Below W.heap.size W W'):San n1 B b3 da ka la dc kc lc W' :=
 ⟨h.m.below hb h.m.lt,h.s.below hb h.s.lt,h.p.below hb h.p.lt,h.L.up hb,h.P.up hb⟩
theorem San.cells {n1 B b3:Nat}{da ka la:Option Addr}{dc kc lc:Nat}{W:World}(h:San n1 B b3 da ka la dc kc lc W):(W.cell? ⟨n1,0,none⟩=some (.slice none 0 0)∧W.cell? ⟨n1,1,none⟩=some (.slice none 0 0)∧W.cell? ⟨n1,2,none⟩=some (.slice none 0 0)∧W.cell? ⟨n1,3,none⟩=some (.slice (some ⟨B,0,none⟩) 4 4))∧(W.cell? ⟨n1+1,0,none⟩=some (.int .i64 exS30.ax)∧W.cell? ⟨n1+1,1,none⟩=some (.int .i64 exS30.ay)∧W.cell? ⟨n1+1,2,none⟩=some (.int .i64 exS30.st)∧W.cell? ⟨n1+1,3,none⟩=some (.int .i64 exS30.w)∧W.cell? ⟨n1+1,4,none⟩=some (.int .i64 exS30.h)∧W.cell? ⟨n1+1,5,none⟩=some (.int .i64 exS30.g))∧(W.cell? ⟨b3,0,none⟩=some (.slice da 17 dc)∧W.cell? ⟨b3,1,none⟩=some (.slice ka 2 kc)∧W.cell? ⟨b3,2,none⟩=some (.slice la 2 lc)) :=
 ⟨⟨h.m.cell 0,h.m.cell 1,h.m.cell 2,h.m.cell 3⟩,⟨h.s.cell 0,h.s.cell 1,h.s.cell 2,h.s.cell 3,h.s.cell 4,h.s.cell 5⟩,⟨h.p.cell 0,h.p.cell 1,h.p.cell 2⟩⟩
theorem c9j (X:World)(v:Value)(h:Lst inE X.heap.size X v [3,1,2,4]):Calls prog 13 #[v,.slice (some ⟨X.heap.size,0,none⟩) 4 4] (X.alloc (.cells #[.int .i64 3,.int .i64 1,.int .i64 2,.int .i64 4] 3)) fun e w'=>e= .returned (.bool true)∧Below X.heap.size X w':=by
 have hb:Below X.heap.size X (X.alloc (.cells #[.int .i64 3,.int .i64 1,.int .i64 2,.int .i64 4] 3)):=(zR _ _).alloc (yR _) _;refine (c5x v (.slice (some ⟨X.heap.size,0,none⟩) 4 4) [3,1,2,4] _ (h.up hb) (a0b b6z (l:=[3,1,2,4]) (a5x b6z (l:=[3,1,2,4]) (Blk.new X _ _) (yR _) (by decide)) (by decide)) (by decide)).mono ?_;rintro e w'⟨rfl,h2⟩;exact⟨rfl,hb.trans (h2.mono hb.size)⟩
theorem San.parts {n1 B b3:Nat}{da ka la:Option Addr}{dc kc lc:Nat}{W:World}(h:San n1 B b3 da ka la dc kc lc W):(Lst dtE W.heap.size W (.slice da 17 dc) exPl.dots∧Frm (.slice da 17 dc) exPl.dots.length)∧(Lst keE W.heap.size W (.slice ka 2 kc) exPl.keys∧Frm (.slice ka 2 kc) exPl.keys.length)∧Lst lfE W.heap.size W (.slice la 2 lc) exPl.left∧Frm (.slice la 2 lc) exPl.left.length:=by
 obtain⟨dv,kv,lv,hpv,h1,h2,h3⟩:=h.P.ex;simp only[Value.agg.injEq,Array.mk.injEq,List.cons.injEq,and_true] at hpv;obtain⟨rfl,rfl,rfl⟩:=hpv;exact⟨h1,h2,h3⟩
theorem d4k {n1 B b3:Nat}{da ka la:Option Addr}{dc kc lc:Nat}{W:World}(h:San n1 B b3 da ka la dc kc lc W):Calls prog 16 #[shV exS30,a2f (.slice da 17 dc) (.slice ka 2 kc) (.slice la 2 lc),.int .i64 10,.int .i64 10] W fun e w'=>e= .returned (.tuple #[.int .i64 3,.int .i64 1])∧Below W.heap.size W w':=by
 have h1:=c0t exS30 (.slice da 17 dc) (.slice ka 2 kc) (.slice la 2 lc) exPl.dots 10 10 W h.parts.1.1 h.parts.1.2;rw[c9b] at h1;exact h1
theorem d4l {n1 B b3:Nat}{da ka la:Option Addr}{dc kc lc:Nat}{W:World}(h:San n1 B b3 da ka la dc kc lc W):Calls prog 16 #[shV exS30,a2f (.slice da 17 dc) (.slice ka 2 kc) (.slice la 2 lc),.int .i64 9,.int .i64 9] W fun e w'=>e= .returned (.tuple #[.int .i64 0,.int .i64 0])∧Below W.heap.size W w':=by
 have h1:=c0t exS30 (.slice da 17 dc) (.slice ka 2 kc) (.slice la 2 lc) exPl.dots 9 9 W h.parts.1.1 h.parts.1.2;rw[c9c] at h1;exact h1
theorem d1r:a3f exS30 [] (a1d exL)=exPl:=by rw[b1p];rfl
theorem a8c:a1x exS30=0:=by decide +kernel
theorem c9k:∀p∈exL,PcOk p∧p.cls.size≤1000:=by
 intro p hp;simp only[exL,List.mem_cons,List.not_mem_nil,or_false] at hp;rcases hp with rfl|rfl|rfl|rfl
 all_goals exact⟨⟨by decide,by decide,by decide,by decide,by decide⟩,by decide⟩
theorem d1s:∀d∈exPl.dots,Sm d:=c5k (a6o a8c) [] exO
theorem d0k:∀x∈exPl.left,a0k x.i:=by
 rw[b4q];intro x hx;simp only[List.mem_cons,List.not_mem_nil,or_false] at hx;rcases hx with rfl|rfl
 all_goals decide
theorem c2o {α:Type}{E:El α}{n0:Nat}{W:World}{a:Option Addr}{n m c k:Nat}{l:List α}(h:Lst E n0 W (.slice a n c) l)(hk:k≤l.length)(hm:(l.take k).length=m):Lst E n0 W (.slice a m c) (l.take k):=by
 obtain⟨a',c',e,h1,h2,h3⟩:=h;simp only[Value.slice.injEq] at e;obtain⟨rfl,-,rfl⟩:=e;have hlt:(l.take k).length≤l.length:=by rw[List.length_take];omega
 refine⟨a,c,by rw[hm],by omega,by omega,fun j hj=> ?_⟩;obtain⟨b,off,h4,h5,h6⟩:=h3 j (by omega);exact⟨b,off,h4,h5,fun i hi=>by rw[List.getElem_take];exact h6 i hi⟩
theorem c2p {α:Type}{a:Option Addr}{n m c k:Nat}{l:List α}(h:Frm (.slice a n c) l.length)(hn:n≠0)(hm:(l.take k).length=m):Frm (.slice a m c) (l.take k).length:=by
 rcases h with h|⟨b,o,c',h⟩
 ·simp only[Value.slice.injEq] at h
  exact absurd h.2.1 hn
 ·simp only[Value.slice.injEq] at h
  obtain⟨rfl,-,rfl⟩:=h;exact .inr ⟨b,o,c,by rw[hm]⟩
structure San2 (n1 B b3 BL:Nat)(da ka la:Option Addr)(dc kc lc:Nat)(W:World):Prop where
 b:San n1 B b3 da ka la dc kc lc W
 l:Blk W BL #[.slice da 16 dc,.slice ka 2 kc,.slice la 2 lc] 45
 o:Blk W (BL+1) #[.slice da 17 dc,.slice ka 2 kc,.slice (some ⟨BL+1+1,0,none⟩) 2 2] 45
 pl:PlanIn W (a2f (.slice da 16 dc) (.slice ka 2 kc) (.slice la 2 lc)) b7c
 po:PlanIn W (a2f (.slice da 17 dc) (.slice ka 2 kc) (.slice (some ⟨BL+1+1,0,none⟩) 2 2)) b4r
section
variable {n1 B b3 BL:Nat}{da ka la:Option Addr}{dc kc lc:Nat}{W W':World}
theorem San2.up (h:San2 n1 B b3 BL da ka la dc kc lc W)(hb:Below W.heap.size W W'):San2 n1 B b3 BL da ka la dc kc lc W' :=
 ⟨h.b.up hb,h.l.below hb h.l.lt,h.o.below hb h.o.lt,h.pl.up hb,h.po.up hb⟩
theorem San2.cells (h:San2 n1 B b3 BL da ka la dc kc lc W):(W.cell? ⟨BL,0,none⟩=some (.slice da 16 dc)∧W.cell? ⟨BL,1,none⟩=some (.slice ka 2 kc)∧W.cell? ⟨BL,2,none⟩=some (.slice la 2 lc))∧(W.cell? ⟨BL+1,0,none⟩=some (.slice da 17 dc)∧W.cell? ⟨BL+1,1,none⟩=some (.slice ka 2 kc)∧W.cell? ⟨BL+1,2,none⟩=some (.slice (some ⟨BL+1+1,0,none⟩) 2 2)) :=
 ⟨⟨h.l.cell 0,h.l.cell 1,h.l.cell 2⟩,⟨h.o.cell 0,h.o.cell 1,h.o.cell 2⟩⟩
theorem d3c (h:San2 n1 B b3 BL da ka la dc kc lc W):Calls prog 21 #[a2f (.slice da 17 dc) (.slice ka 2 kc) (.slice la 2 lc),a2f (.slice da 17 dc) (.slice ka 2 kc) (.slice la 2 lc)] W fun e w'=>e= .returned (.bool true)∧Below W.heap.size W w':=by
 have h1:=a8p _ _ exPl exPl W h.b.P h.b.P;rw[c9d] at h1;exact h1
theorem d3d (h:San2 n1 B b3 BL da ka la dc kc lc W):Calls prog 21 #[a2f (.slice da 17 dc) (.slice ka 2 kc) (.slice la 2 lc),a2f (.slice da 16 dc) (.slice ka 2 kc) (.slice la 2 lc)] W fun e w'=>e= .returned (.bool false)∧Below W.heap.size W w':=by
 have h1:=a8p _ _ exPl b7c W h.b.P h.pl;rw[c9e] at h1;exact h1
theorem c5y (W:World):Wys W.heap.size W (.slice none 0 0) []:=⟨none,0,rfl,fun j hj=>absurd hj (by simp)⟩
theorem d4m (h:San2 n1 B b3 BL da ka la dc kc lc W)(hPow:∀W',Below W.heap.size W W'→Pow W'):Calls prog 19 #[c0p (.slice none 0 0) (.slice none 0 0) (.slice none 0 0) (.slice (some ⟨B,0,none⟩) 4 4),shV exS30,a2f (.slice da 17 dc) (.slice ka 2 kc) (.slice la 2 lc)] W fun e w'=>e= .returned (.int .i64 0)∧Below W.heap.size W w' :=
 a5g exS30 (by decide) (by decide) a8c (.slice none 0 0) (.slice none 0 0) (.slice none 0 0) (.slice (some ⟨B,0,none⟩) 4 4) _ exL [] exPl W h.b.L (.inr ⟨_,_,_,rfl⟩) (by decide) c9k (c5y _) (by simp) (by simp) (by simp) hPow h.b.P d1s (by rw[a8q];decide) d0k 0 (by rw[b1p];exact d1m)
theorem d4n (h:San2 n1 B b3 BL da ka la dc kc lc W)(hPow:∀W',Below W.heap.size W W'→Pow W'):Calls prog 19 #[c0p (.slice none 0 0) (.slice none 0 0) (.slice none 0 0) (.slice (some ⟨B,0,none⟩) 4 4),shV exS30,a2f (.slice da 16 dc) (.slice ka 2 kc) (.slice la 2 lc)] W fun e w'=>e= .returned (.int .i64 42)∧Below W.heap.size W w' :=
 a5g exS30 (by decide) (by decide) a8c (.slice none 0 0) (.slice none 0 0) (.slice none 0 0) (.slice (some ⟨B,0,none⟩) 4 4) _ exL [] b7c W h.b.L (.inr ⟨_,_,_,rfl⟩) (by decide) c9k (c5y _) (by simp) (by simp) (by simp) hPow h.pl (fun d hd=>d1s d (List.mem_of_mem_take hd)) (Nat.le_trans (List.length_take_le 16 exPl.dots) (by decide)) d0k 42 (by rw[b1p];exact d1n)
theorem d4o (h:San2 n1 B b3 BL da ka la dc kc lc W)(hPow:∀W',Below W.heap.size W W'→Pow W'):Calls prog 19 #[c0p (.slice none 0 0) (.slice none 0 0) (.slice none 0 0) (.slice (some ⟨B,0,none⟩) 4 4),shV exS30,a2f (.slice da 17 dc) (.slice ka 2 kc) (.slice (some ⟨BL+1+1,0,none⟩) 2 2)] W fun e w'=>e= .returned (.int .i64 42)∧Below W.heap.size W w' :=
 a5g exS30 (by decide) (by decide) a8c (.slice none 0 0) (.slice none 0 0) (.slice none 0 0) (.slice (some ⟨B,0,none⟩) 4 4) _ exL [] b4r W h.b.L (.inr ⟨_,_,_,rfl⟩) (by decide) c9k (c5y _) (by simp) (by simp) (by simp) hPow h.po d1s (by show exPl.dots.length≤10000;rw[a8q];decide) (by
  intro x hx;simp only[b4r,List.mem_cons,List.not_mem_nil,or_false] at hx;rcases hx with rfl|rfl
  all_goals decide) 42 (by rw[b1p];exact d1o)
end
theorem c9l (w:World)(hPow:∀W,Below w.heap.size w W→Pow W):Calls prog 8 #[] w fun e w'=>e= .returned (.bool true)∧Below w.heap.size w w':=by
 go_enter func8,ntmps8;go_upto_region 2 with (first
  |(go_at_call 29;refine (c5v _).mono ?_;rintro e w1⟨B,rfl,hB,kB,hb1⟩)
  |fail)
 have km:=(Blk.new w1 #[.slice none 0 0,.slice none 0 0,.slice none 0 0,.slice (some ⟨B,0,none⟩) 4 4] 37).alloc (.cells #[.int .i64 exS30.ax,.int .i64 exS30.ay,.int .i64 exS30.st,.int .i64 exS30.w,.int .i64 exS30.h,.int .i64 exS30.g] 28);have ks:=Blk.new (w1.alloc (.cells #[.slice none 0 0,.slice none 0 0,.slice none 0 0,.slice (some ⟨B,0,none⟩) 4 4] 37)) #[.int .i64 exS30.ax,.int .i64 exS30.ay,.int .i64 exS30.st,.int .i64 exS30.w,.int .i64 exS30.h,.int .i64 exS30.g] 28;obtain⟨W2,hW2⟩:∃W2,(w1.alloc (.cells #[.slice none 0 0,.slice none 0 0,.slice none 0 0,.slice (some ⟨B,0,none⟩) 4 4] 37)).alloc (.cells #[.int .i64 exS30.ax,.int .i64 exS30.ay,.int .i64 exS30.st,.int .i64 exS30.w,.int .i64 exS30.h,.int .i64 exS30.g] 28)=W2:=⟨_,rfl⟩;have hb12:Below w1.heap.size w1 W2:=by rw[←hW2];exact ((zR _ _).alloc (yR _) _).alloc (by simp) _
 simp only[World.size_alloc] at ks;rw[hW2] at km ks ⊢;clear hW2;have hbw2:=hb1.trans (hb12.mono hb1.size);have hL2:Lst plE W2.heap.size W2 (.slice (some ⟨B,0,none⟩) 4 4) exL:=a0b a2l (a5x a2l (kB.below hb12 kB.lt) (yR B) (by decide)) (by decide);obtain⟨n1,hn1⟩:∃n,w1.heap.size=n:=⟨_,rfl⟩;rw[hn1] at km ks ⊢;have hwn:w.heap.size≤n1:=by have:=hb1.size;omega
 clear hn1 hb12 hb1 kB hB;have hWy:∀W:World,Wys W.heap.size W (.slice none 0 0) []:=fun W=>⟨none,0,rfl,fun j hj=>absurd hj (by simp)⟩
 have hMk:=a8o exS30 (by decide) (by decide) a8c (.slice none 0 0) (.slice none 0 0) (.slice none 0 0) (.slice (some ⟨B,0,none⟩) 4 4) exL [] W2 hL2 (.inr ⟨_,_,_,rfl⟩) (by decide) c9k (hWy _) (by simp) (by simp) (by simp) (fun W h=>hPow W (hbw2.trans (h.mono hbw2.size)));rw[d1r] at hMk;obtain⟨m0,m1,m2,m3⟩:W2.cell? ⟨n1,0,none⟩=some (.slice none 0 0)∧W2.cell? ⟨n1,1,none⟩=some (.slice none 0 0)∧W2.cell? ⟨n1,2,none⟩=some (.slice none 0 0)∧W2.cell? ⟨n1,3,none⟩=some (.slice (some ⟨B,0,none⟩) 4 4):=⟨km.cell 0,km.cell 1,km.cell 2,km.cell 3⟩;obtain⟨s0,s1,s2,s3,s4,s5⟩:W2.cell? ⟨n1+1,0,none⟩=some (.int .i64 exS30.ax)∧W2.cell? ⟨n1+1,1,none⟩=some (.int .i64 exS30.ay)∧W2.cell? ⟨n1+1,2,none⟩=some (.int .i64 exS30.st)∧W2.cell? ⟨n1+1,3,none⟩=some (.int .i64 exS30.w)∧W2.cell? ⟨n1+1,4,none⟩=some (.int .i64 exS30.h)∧W2.cell? ⟨n1+1,5,none⟩=some (.int .i64 exS30.g):=⟨ks.cell 0,ks.cell 1,ks.cell 2,ks.cell 3,ks.cell 4,ks.cell 5⟩;go_upto_region 3 with (first
  |(go_at_call 10;(with_reducible refine hMk.mono ?_);rintro e w3⟨v,rfl,hP,hb3⟩
    obtain⟨dv,kv,lv,rfl,⟨hd,hdf⟩,⟨hk,hkf⟩,hl,hlf⟩:=hP.ex;obtain⟨da,dc,e1,hdc⟩:=hd.form;obtain⟨ka,kc,e2,-⟩:=hk.form;obtain⟨la,lc,e3,-⟩:=hl.form;rw[a8q] at e1 hdc;rw[c5w] at e2;rw[b4q] at e3;subst e1 e2 e3)
  |fail)
 clear hMk m0 m1 m2 m3 s0 s1 s2 s3 s4 s5 hd hdf hk hkf hl hlf;have hb34:Below w3.heap.size w3 (w3.alloc (.cells #[.slice da 17 dc,.slice ka 2 kc,.slice la 2 lc] 45)):=(zR _ _).alloc (yR _) _;have hb24:=hb3.trans (hb34.mono hb3.size);have hS4:San n1 B w3.heap.size da ka la dc kc lc (w3.alloc (.cells #[.slice da 17 dc,.slice ka 2 kc,.slice la 2 lc] 45)):=⟨km.below hb24 km.lt,ks.below hb24 ks.lt,Blk.new _ _ _,hL2.up hb24,hP.up hb34⟩;have hbw4:=hbw2.trans (hb24.mono hbw2.size);obtain⟨W4,hW4⟩:∃W4,w3.alloc (.cells #[.slice da 17 dc,.slice ka 2 kc,.slice la 2 lc] 45)=W4:=⟨_,rfl⟩;obtain⟨b3,hb3'⟩:∃b,w3.heap.size=b:=⟨_,rfl⟩;rw[hW4] at hS4 hbw4;rw[hW4];rw[hb3'] at hS4;rw[hb3'];clear hW4 hb3' hb34 hb24 hP hb3 km ks hL2 hbw2;obtain⟨⟨m0,m1,m2,m3⟩,-,⟨p0,p1,p2⟩⟩:=hS4.cells;have hOr:=c5l (.slice none 0 0) (.slice none 0 0) (.slice none 0 0) (.slice (some ⟨B,0,none⟩) 4 4) exL W4 hS4.L (.inr ⟨_,_,_,rfl⟩) (by decide);rw[b1p,c9f] at hOr;go_upto_region 5 with (first
  |(go_at_call 14;(with_reducible refine hOr.mono ?_);rintro e w5⟨v5,rfl,hv5,-,hb5⟩)
  |(go_at_call 13;(with_reducible refine (c9j _ _ hv5).mono ?_);rintro e w6⟨rfl,hb6⟩)
  |fail)
 have hS6:=(hS4.up hb5).up hb6;have hbw6:=(hbw4.trans (hb5.mono hbw4.size)).trans (hb6.mono (Nat.le_trans hbw4.size hb5.size));clear hOr m0 m1 m2 m3 p0 p1 p2 hv5 hb5 hb6 hS4 hbw4;obtain⟨-,-,⟨p0,p1,p2⟩⟩:=hS6.cells;obtain⟨dv,kv,lv,hpv,-,⟨hk,-⟩,hl,-⟩:=hS6.P.ex;simp only[Value.agg.injEq,Array.mk.injEq,List.cons.injEq,and_true] at hpv;obtain⟨rfl,rfl,rfl⟩:=hpv;rw[c5w] at hk;rw[b4q] at hl;obtain⟨kb,ko,kc',hv1,-,-,hkc⟩:=hk.some_ (by decide);obtain⟨lb,lo,lc',hv2,-,-,hlc⟩:=hl.some_ (by decide);simp only[Value.slice.injEq] at hv1 hv2;obtain⟨rfl,-,rfl⟩:=hv1;obtain⟨rfl,-,rfl⟩:=hv2;obtain⟨l0,l1,l2,l3,l4,l5⟩:w6.cell? ⟨lb,lo,none⟩=some (.int .i64 2)∧w6.cell? ⟨lb,lo+1,none⟩=some (.int .i64 3)∧w6.cell? ⟨lb,lo+2,none⟩=some (.int .i64 1)∧w6.cell? ⟨lb,lo+3,none⟩=some (.int .i64 4)∧w6.cell? ⟨lb,lo+3+1,none⟩=some (.int .i64 0)∧w6.cell? ⟨lb,lo+3+2,none⟩=some (.int .i64 0):=⟨hlc 0 (by decide) 0 (show 0<3 by decide),hlc 0 (by decide) 1 (show 1<3 by decide),hlc 0 (by decide) 2 (show 2<3 by decide),hlc 1 (by decide) 0 (show 0<3 by decide),hlc 1 (by decide) 1 (show 1<3 by decide),hlc 1 (by decide) 2 (show 2<3 by decide)⟩;obtain⟨k0,k1,k2,k3,k4,k5⟩:w6.cell? ⟨kb,ko,none⟩=some (.int .i64 3)∧w6.cell? ⟨kb,ko+1,none⟩=some (.int .i64 3)∧w6.cell? ⟨kb,ko+2,none⟩=some (.string ⟨#[32,21,1,5]⟩)∧w6.cell? ⟨kb,ko+3,none⟩=some (.int .i64 1)∧w6.cell? ⟨kb,ko+3+1,none⟩=some (.int .i64 1)∧w6.cell? ⟨kb,ko+3+2,none⟩=some (.string ⟨#[32,17,7,13]⟩):=⟨hkc 0 (by decide) 0 (show 0<3 by decide),hkc 0 (by decide) 1 (show 1<3 by decide),hkc 0 (by decide) 2 (show 2<3 by decide),hkc 1 (by decide) 0 (show 0<3 by decide),hkc 1 (by decide) 1 (show 1<3 by decide),hkc 1 (by decide) 2 (show 2<3 by decide)⟩;have hq1:=fun w=>d3b 2 3 1 2 3 1 w
 have hq2:=fun w=>d3b 4 0 0 4 0 0 w
 clear hkc hlc hk hl;go_upto_region 6 with fail;clear p0 p1 p2 l0 l1 l2 l3 l4 l5 k0 k1 k2 k3 k4 k5 hq1 hq2;have c6:=hS6.cells;obtain⟨-,⟨s0,s1,s2,s3,s4,s5⟩,⟨p0,p1,p2⟩⟩:=c6;go_upto_region 8 with (first
  |(go_at_call 16;(with_reducible refine (d4k hS6).mono ?_);rintro e w7⟨rfl,hb7⟩;have hS7:=hS6.up hb7;have c7:=hS7.cells;obtain⟨-,⟨s0,s1,s2,s3,s4,s5⟩,⟨p0,p1,p2⟩⟩:=c7)
  |(go_at_call 16;(with_reducible refine (d4l hS7).mono ?_);rintro e w8⟨rfl,hb8⟩;have hS8:=hS7.up hb8)
  |fail)
 have hbw8:=(hbw6.trans (hb7.mono hbw6.size)).trans (hb8.mono (Nat.le_trans hbw6.size hb7.size));clear s0 s1 s2 s3 s4 s5 p0 p1 p2 hS6 hS7 hb7 hb8 hbw6;obtain⟨-,-,⟨p0,p1,p2⟩⟩:=hS8.cells;have hl:=hS8.parts.2.2.1;rw[b4q] at hl;obtain⟨lb',lo',lc',hv2,-,-,hlc⟩:=hl.some_ (by decide);simp only[Value.slice.injEq,Option.some.injEq,Addr.mk.injEq,and_true] at hv2;obtain⟨⟨rfl,rfl⟩,-,rfl⟩:=hv2;obtain⟨l3,l4,l5⟩:w8.cell? ⟨lb,lo+3,none⟩=some (.int .i64 4)∧w8.cell? ⟨lb,lo+3+1,none⟩=some (.int .i64 0)∧w8.cell? ⟨lb,lo+3+2,none⟩=some (.int .i64 0):=⟨hlc 1 (by decide) 0 (show 0<3 by decide),hlc 1 (by decide) 1 (show 1<3 by decide),hlc 1 (by decide) 2 (show 2<3 by decide)⟩;have hdI:(16:Int)≤(dc:Int):=by omega
 clear hlc hl;go_upto_region 12 with fail;have hb89:Below w8.heap.size w8 (((w8.alloc (.cells #[.slice da 16 dc,.slice (some ⟨kb,ko,none⟩) 2 kc,.slice (some ⟨lb,lo,none⟩) 2 lc] 45)).alloc (.cells #[.slice da 17 dc,.slice (some ⟨kb,ko,none⟩) 2 kc,.slice (some ⟨w8.heap.size+1+1,0,none⟩) 2 2] 45)).alloc (.cells #[.int .i64 2,.int .i64 3,.int .i64 3,.int .i64 4,.int .i64 0,.int .i64 0] 68)):=(((zR _ _).alloc (yR _) _).alloc (by simp) _).alloc (by simp;omega) _;have kL:=((Blk.new w8 #[.slice da 16 dc,.slice (some ⟨kb,ko,none⟩) 2 kc,.slice (some ⟨lb,lo,none⟩) 2 lc] 45).alloc (.cells #[.slice da 17 dc,.slice (some ⟨kb,ko,none⟩) 2 kc,.slice (some ⟨w8.heap.size+1+1,0,none⟩) 2 2] 45)).alloc (.cells #[.int .i64 2,.int .i64 3,.int .i64 3,.int .i64 4,.int .i64 0,.int .i64 0] 68);have kO:=(Blk.new (w8.alloc (.cells #[.slice da 16 dc,.slice (some ⟨kb,ko,none⟩) 2 kc,.slice (some ⟨lb,lo,none⟩) 2 lc] 45)) #[.slice da 17 dc,.slice (some ⟨kb,ko,none⟩) 2 kc,.slice (some ⟨w8.heap.size+1+1,0,none⟩) 2 2] 45).alloc (.cells #[.int .i64 2,.int .i64 3,.int .i64 3,.int .i64 4,.int .i64 0,.int .i64 0] 68);have kA:=Blk.new ((w8.alloc (.cells #[.slice da 16 dc,.slice (some ⟨kb,ko,none⟩) 2 kc,.slice (some ⟨lb,lo,none⟩) 2 lc] 45)).alloc (.cells #[.slice da 17 dc,.slice (some ⟨kb,ko,none⟩) 2 kc,.slice (some ⟨w8.heap.size+1+1,0,none⟩) 2 2] 45)) #[.int .i64 2,.int .i64 3,.int .i64 3,.int .i64 4,.int .i64 0,.int .i64 0] 68;simp only[World.size_alloc] at kO kA;obtain⟨W9,hW9⟩:∃W,((w8.alloc (.cells #[.slice da 16 dc,.slice (some ⟨kb,ko,none⟩) 2 kc,.slice (some ⟨lb,lo,none⟩) 2 lc] 45)).alloc (.cells #[.slice da 17 dc,.slice (some ⟨kb,ko,none⟩) 2 kc,.slice (some ⟨w8.heap.size+1+1,0,none⟩) 2 2] 45)).alloc (.cells #[.int .i64 2,.int .i64 3,.int .i64 3,.int .i64 4,.int .i64 0,.int .i64 0] 68)=W:=⟨_,rfl⟩;rw[hW9] at hb89 kL kO kA ⊢;have hbw9:=hbw8.trans (hb89.mono hbw8.size);have hS9:=hS8.up hb89;obtain⟨BL,hBL⟩:∃b,w8.heap.size=b:=⟨_,rfl⟩;rw[hBL] at kL kO kA ⊢;clear hW9 hBL hb89 hS8 hbw8 p0 p1 p2 l3 l4 l5;have hpt:=hS9.parts;have hSS:San2 n1 B b3 BL da (some ⟨kb,ko,none⟩) (some ⟨lb,lo,none⟩) dc kc lc W9 :=
  ⟨hS9,kL,kO,⟨_,_,_,rfl,⟨c2o (k:=16) hpt.1.1 (by rw[a8q];decide) (by rw[List.length_take,a8q];rfl),c2p hpt.1.2 (by decide) (by rw[List.length_take,a8q];rfl)⟩,hpt.2.1,hpt.2.2⟩,
   ⟨_,_,_,rfl,hpt.1,hpt.2.1,a0b a7r (l:=[⟨2,3,3⟩,⟨4,0,0⟩]) (a5x a7r (l:=[⟨2,3,3⟩,⟨4,0,0⟩]) kA (yR _) (by decide)) (by decide),.inr ⟨_,_,_,rfl⟩⟩⟩
 clear hpt kL kO kA hS9;obtain⟨-,-,⟨p0,p1,p2⟩⟩:=hSS.b.cells;obtain⟨⟨q0,q1,q2⟩,-⟩:=hSS.cells;go_upto_region 13 with (first
  |(go_at_call 21;(with_reducible refine (d3c hSS).mono ?_);rintro e w10⟨rfl,hb10⟩;have hS10:=hSS.up hb10;have c10:=hS10.b.cells;have d10:=hS10.cells;obtain⟨-,-,⟨p0,p1,p2⟩⟩:=c10;obtain⟨⟨q0,q1,q2⟩,-⟩:=d10)
  |(go_at_call 21;(with_reducible refine (d3d hS10).mono ?_);rintro e w11⟨rfl,hb11⟩)
  |fail)
 have hS11:=hS10.up hb11;have hbw11:=(hbw9.trans (hb10.mono hbw9.size)).trans (hb11.mono (Nat.le_trans hbw9.size hb10.size));clear p0 p1 p2 q0 q1 q2 hSS hS10 hb10 hb11 hbw9;obtain⟨⟨m0,m1,m2,m3⟩,⟨t0,t1,t2,t3,t4,t5⟩,⟨p0,p1,p2⟩⟩:=hS11.b.cells;have hP11:∀W,Below w11.heap.size w11 W→Pow W:=fun W h=>hPow W (hbw11.trans (h.mono hbw11.size))
 go_wp2_with (first
  |(go_at_call 19;(with_reducible refine (d4m hS11 hP11).mono ?_);rintro e w12⟨rfl,hb12⟩;have hS12:=hS11.up hb12;have hP12:∀W,Below w12.heap.size w12 W→Pow W:=fun W h=>hP11 W (hb12.trans (h.mono hb12.size));have c12:=hS12.b.cells;have d12:=hS12.cells;obtain⟨⟨m0,m1,m2,m3⟩,⟨t0,t1,t2,t3,t4,t5⟩,-⟩:=c12;obtain⟨⟨q0,q1,q2⟩,-⟩:=d12)
  |(go_at_call 19;(with_reducible refine (d4n hS12 hP12).mono ?_);rintro e w13⟨rfl,hb13⟩;have hS13:=hS12.up hb13;have hP13:∀W,Below w13.heap.size w13 W→Pow W:=fun W h=>hP12 W (hb13.trans (h.mono hb13.size));have c13:=hS13.b.cells;have d13:=hS13.cells;obtain⟨⟨m0,m1,m2,m3⟩,⟨t0,t1,t2,t3,t4,t5⟩,-⟩:=c13;obtain⟨-,⟨q0,q1,q2⟩⟩:=d13)
  |(go_at_call 19;(with_reducible refine (d4o hS13 hP13).mono ?_);rintro e w14⟨rfl,hb14⟩)
  |fail)
 go_ret;exact⟨rfl,hbw11.trans ((hb12.trans ((hb13.trans (hb14.mono hb13.size)).mono hb12.size)).mono hbw11.size)⟩
end
section
open Go.RowKit Go.Shelf
theorem b7e (n:Int)(w:World)(h0 : -9223372036854775808≤n)(h1:n≤9223372036854775807) :
 Calls prog 219 #[.int .i64 n] w fun e w'=>e= .returned (.int .u64 n.natAbs)∧w=w':=by
 by_cases h:n<0
 ·go_enter func219,ntmps219
  go_wp2
  go_ret;exact⟨a3i (by rw[IntKind.wrap_u64,IntKind.wrap_u64];omega),rfl⟩
 ·go_enter func219,ntmps219
  go_wp2
  go_ret;exact⟨a3i (by omega),rfl⟩
theorem b4w (n:Int)(w:World) :
 Calls prog 217 #[.int .i64 n] w fun e w'=>e= .returned (.int .i64 n.sign)∧w=w':=by
 rcases Int.lt_trichotomy n 0 with h|h|h
 ·have h1:¬(0<n):=by omega
  go_enter func217,ntmps217;go_wp2
  go_ret;exact⟨a3i (Int.sign_eq_neg_one_of_neg h).symm,rfl⟩
 ·subst h
  go_enter func217,ntmps217;go_wp2
  go_ret;exact⟨rfl,rfl⟩
 ·have h1:¬(n<0):=by omega
  go_enter func217,ntmps217;go_wp2
  go_ret;exact⟨a3i (Int.sign_eq_one_of_pos h).symm,rfl⟩
theorem a9m (a b:Nat)(w:World)(ha:a<18446744073709551616)(hb:b<18446744073709551616) :
 Calls prog 218 #[.int .u64 a,.int .u64 b] w fun e w'=>e= .returned (.agg #[.int .u64 (hiN a b),.int .u64 (loN a b)])∧Below w.heap.size w w':=by
 have hh:=d1p a b ha hb _ (c9i a b ha hb);rw[Int.add_comm (bits .and .u64 _ _)] at hh;have H:=Lib.hid hh;clear hh;go_enter func218,ntmps218;go_wp2
 refine bodyPost_ret (v:= .agg #[.int .u64 (hiN a b),.int .u64 (loN a b)]) ?_ rfl ⟨rfl,?_⟩
 ·rw[show hiN a b=_ from H.out.symm,show loN a b=_ from (d1q a b).symm];simp[results,results218,go_sem]
 ·exact (zR _ _).alloc (yR _) _
theorem d3e {W w1:World}(hb:Below W.heap.size W w1):(∀b o,b<W.heap.size→w1.cell? ⟨b,o,none⟩=W.cell? ⟨b,o,none⟩)∧(∀b o,b<W.heap.size→w1.frozen? ⟨b,o,none⟩=W.frozen? ⟨b,o,none⟩) :=
 ⟨fun b o h=>hb.cell (p:=⟨b,o,none⟩) h,fun b o h=>hb.frozen (p:=⟨b,o,none⟩) h⟩
theorem d3f (n:Int) : -1≤n.sign∧n.sign≤1:=by rcases c2n n with h|h|h <;> rw[h] <;> decide
theorem b3h (a b:Int) : -1≤a.sign*b.sign∧a.sign*b.sign≤1:=by rw[←Int.sign_mul];exact d3f _
theorem c9m (a b c d:Nat):c6x (hiN a b) (loN a b) (hiN c d) (loN c d)=c0w ((a*b:Nat):Int) ((c*d:Nat):Int):=c2l _ _
theorem a8d (a:Int)(a0 : -9223372036854775808≤a)(a1:a≤9223372036854775807):a.natAbs<18446744073709551616:=by omega
theorem a2y {B:Nat}{a w:World}(h:Below B a w):∀n,Below B a (w.drewN n)
 |0=>h
 |n+1=>by
  have:=a2y h n;exact⟨this.os,this.tape,this.output,this.size,this.block⟩
theorem a6s {w w1 w2:World}{o1 o2:Obj}(hb1:Below w.heap.size w w1)(hb2:Below (w1.alloc o1).heap.size (w1.alloc o1) w2)(n:Nat):Below w.heap.size w ((w2.alloc o2).drewN n):=by
 have h1:=hb1.size;have h2:=hb2.size;simp at h2;exact a2y (((hb1.alloc h1 o1).trans (hb2.mono (by simp;omega))).alloc (by omega) o2) n
theorem d1t (a b c d:Int)(h:c<a):c6x a b c d=1:=by unfold c6x;rw[a8s h,if_neg (by decide)]
theorem d1u (a b c d:Int)(h:a<c):c6x a b c d = -1:=by unfold c6x;rw[a8r h,if_neg (by decide)]
theorem b1s (a b d:Int):c6x a b a d=c0w b d:=by unfold c6x;rw[b1q,if_pos rfl]
theorem b3i (a b c d:Int)(w:World)(a0 : -9223372036854775808≤a)(a1:a≤9223372036854775807)(b0 : -9223372036854775808≤b)(b1:b≤9223372036854775807)
 (c0 : -9223372036854775808≤c) (c1:c≤9223372036854775807) (d0 : -9223372036854775808≤d) (d1:d≤9223372036854775807) :
 Calls prog 215 #[.int .i64 a,.int .i64 b,.int .i64 c,.int .i64 d] w fun e w'=>e= .returned (.int .i64 (c2m a b c d))∧Below w.heap.size w w':=by
 obtain⟨p0,p1⟩:=b3h a b;obtain⟨q0,q1⟩:=b3h c d;by_cases h:a.sign*b.sign=c.sign*d.sign
 ·have hb:(a.sign*b.sign != c.sign*d.sign)=false:=by simp[h]
  have HE:Hid (a.sign*b.sign*c6x (hiN a.natAbs b.natAbs) (loN a.natAbs b.natAbs) (hiN c.natAbs d.natAbs) (loN c.natAbs d.natAbs)=c2m a b c d):=by rw[c9m];exact c9h h
  clear h;go_enter func215,ntmps215;go_wp2_with (first|(go_at_call 217;refine (b4w _ _).mono ?_;rintro e w'⟨rfl,rfl⟩)|(go_at_call 219;refine (b7e _ _ (by assumption) (by assumption)).mono ?_;rintro e w'⟨rfl,rfl⟩));refine (a9m _ _ _ (a8d a a0 a1) (a8d b b0 b1)).mono ?_;rintro e w1⟨rfl,hb1⟩;go_wp2_with (first|(go_at_call 217;refine (b4w _ _).mono ?_;rintro e w'⟨rfl,rfl⟩)|(go_at_call 219;refine (b7e _ _ (by assumption) (by assumption)).mono ?_;rintro e w'⟨rfl,rfl⟩));refine (a9m _ _ _ (a8d c c0 c1) (a8d d d0 d1)).mono ?_;rintro e w2⟨rfl,hb2⟩;generalize hiN a.natAbs b.natAbs=x0 at *;generalize loN a.natAbs b.natAbs=x1 at *;generalize hiN c.natAbs d.natAbs=y0 at *;generalize loN c.natAbs d.natAbs=y1 at *;have hc0:w2.cell? ⟨w1.heap.size,0,none⟩=some (.int .u64 x0):=by rw[(d3e hb2).1 _ _ (by simp)];simp
  have hc1:w2.cell? ⟨w1.heap.size,1,none⟩=some (.int .u64 x1):=by rw[(d3e hb2).1 _ _ (by simp)];simp
  have hz:w1.heap.size<w2.heap.size:=by have:=hb2.size;simp at this;omega
  go_wp2_with fail;refine wp_loop_rounds 3 ?_;rw[rounds_succ];rcases Int.lt_trichotomy x0 y0 with hx|hx|hx
  ·have hn:¬y0<x0:=by omega
   have HF:=Lib.hid (d1u x0 x1 y0 y1 hx);go_wp2_with fail;go_quiet (fail)
   go_wp2_with fail;go_quiet (fail)
   go_wp2_with fail;go_ret;exact⟨a3i (by have h1:=HE.out;rw[HF.out] at h1;omega),by first|exact a6s hb1 hb2 _|exact a2y (a6s hb1 hb2 _) _⟩
  ·subst hx
   rcases Int.lt_trichotomy x1 y1 with hx|hx|hx
   ·have hn:¬y1<x1:=by omega
    have HF:=Lib.hid ((b1s x0 x1 y1).trans (a8r hx));go_wp2_with fail;go_quiet (fail)
    go_wp2_with fail;go_quiet (fail)
    go_wp2_with fail;rw[rounds_succ];go_wp2_with fail;go_quiet (fail)
    go_wp2_with fail;go_quiet (fail)
    go_wp2_with fail;go_ret;exact⟨a3i (by have h1:=HE.out;rw[HF.out] at h1;omega),by first|exact a6s hb1 hb2 _|exact a2y (a6s hb1 hb2 _) _⟩
   ·subst hx
    have HF:=Lib.hid ((b1s x0 x1 x1).trans (b1q x1));go_wp2_with fail;go_quiet (fail)
    go_wp2_with fail;go_quiet (fail)
    go_wp2_with fail;rw[rounds_succ];go_wp2_with fail;go_quiet (fail)
    go_wp2_with fail;go_quiet (fail)
    go_wp2_with fail;rw[rounds_succ];go_wp2_with fail;go_ret;exact⟨a3i (by have h1:=HE.out;rw[HF.out] at h1;omega),by first|exact a6s hb1 hb2 _|exact a2y (a6s hb1 hb2 _) _⟩
   ·have hn:¬x1<y1:=by omega
    have HF:=Lib.hid ((b1s x0 x1 y1).trans (a8s hx));go_wp2_with fail;go_quiet (fail)
    go_wp2_with fail;go_quiet (fail)
    go_wp2_with fail;rw[rounds_succ];go_wp2_with fail;go_quiet (fail)
    go_wp2_with fail;go_ret;exact⟨a3i (by have h1:=HE.out;rw[HF.out] at h1;omega),by first|exact a6s hb1 hb2 _|exact a2y (a6s hb1 hb2 _) _⟩
  ·have hn:¬x0<y0:=by omega
   have HF:=Lib.hid (d1t x0 x1 y0 y1 hx);go_wp2_with fail;go_quiet (fail)
   go_wp2_with fail;go_ret;exact⟨a3i (by have h1:=HE.out;rw[HF.out] at h1;omega),by first|exact a6s hb1 hb2 _|exact a2y (a6s hb1 hb2 _) _⟩
 ·have HE:=Lib.hid (c9g h)
  have hb:(a.sign*b.sign != c.sign*d.sign)=true:=by simp[h]
  clear h;go_enter func215,ntmps215;go_wp2_with (go_at_call 217;refine (b4w _ _).mono ?_;rintro e w'⟨rfl,rfl⟩);go_ret;exact⟨a3i HE.out,zR _ _⟩
end
section
open Go.RowKit Go.Shelf
attribute [local go_sem] Oper.semAt_some
attribute [local go_sem ↓] Go.wp_at_zero Go.wp_at_succ
def d3g (e:Ending):Prop:=∃b:Bool,e= .returned (.bool b)
def d3p (e:Ending):Prop:=∃x:Int,e= .returned (.int .i64 x)
theorem st3 {W:World}{b:Nat}{x y d:Int}{t:TypeId}(h:Blk W b #[.int .i64 x,.int .i64 y,.int .i64 d] t):W.cell? ⟨b,0,none⟩=some (.int .i64 x)∧W.cell? ⟨b,1,none⟩=some (.int .i64 y)∧W.cell? ⟨b,2,none⟩=some (.int .i64 d):=⟨h.cell 0,h.cell 1,h.cell 2⟩
theorem a6f (x y:Int)(w:World):Calls prog 183 #[.agg #[.int .i64 x,.int .i64 y]] w fun e w'=>e= .returned (.agg #[.int .i64 x,.int .i64 y,.int .i64 1])∧Below w.heap.size w w':=by
 go_enter func183,ntmps183;go_wp2_with fail;have hk:=Blk.new (w.alloc (.cells #[.int .i64 x,.int .i64 y] 26)) #[.int .i64 x,.int .i64 y,.int .i64 1] 245;rw[World.size_alloc] at hk;exact bodyPost_ret (results_cell_row (by rfl) _ _ _ 245 _ (0,0) _ (by rfl) hk underlying245 (by rfl) (by kernel_rfl)) rfl ⟨rfl,zC⟩
theorem a9n (x y d:Int)(w:World):Calls prog 182 #[.agg #[.int .i64 x,.int .i64 y,.int .i64 d]] w fun e w'=>d3g e∧Below w.heap.size w w':=by
 go_enter func182,ntmps182;go_wp2_with fail
 all_goals
  go_ret;exact⟨⟨_,rfl⟩,zC⟩
theorem d1v (x y d:Int)(w:World):Calls prog 214 #[.agg #[.int .i64 x,.int .i64 y,.int .i64 d]] w fun e w'=>d3g e∧Below w.heap.size w w':=by
 go_enter func214,ntmps214;go_wp2_with (first|(go_at_call 141;refine (b5s _ _ _ _).mono ?_;rintro e w'⟨rfl,rfl⟩)|fail)
 all_goals
  go_ret;exact⟨⟨_,rfl⟩,zC⟩
theorem a5y (ax ay ad bx by_ bd px py pd:Int)(w:World):Calls prog 202 #[.agg #[.int .i64 ax,.int .i64 ay,.int .i64 ad],.agg #[.int .i64 bx,.int .i64 by_,.int .i64 bd],.agg #[.int .i64 px,.int .i64 py,.int .i64 pd]] w fun e w'=>d3p e∧Below w.heap.size w w':=by
 go_enter func202,ntmps202;go_wp2_with (first
  |(go_at_call 214;refine (d1v _ _ _ _).mono ?_;rintro e w'⟨⟨b,rfl⟩,hb_⟩;obtain⟨p,rfl⟩:=a0e hb_;clear hb_)
  |(go_at_call 215;refine (b3i _ _ _ _ _ (a0j _).1 (a0j _).2 (a0j _).1 (a0j _).2 (a0j _).1 (a0j _).2 (a0j _).1 (a0j _).2).mono ?_;rintro e w'⟨rfl,hb_⟩;obtain⟨p,rfl⟩:=a0e hb_;clear hb_)
  |fail)
 all_goals
  go_ret;exact⟨⟨_,rfl⟩,zC⟩
theorem b4x (n d m e:Int)(w:World)(hn:a0k n)(hd:a0k d)(hm:a0k m)(he:a0k e):Calls prog 205 #[.agg #[.int .i64 n,.int .i64 d],.agg #[.int .i64 m,.int .i64 e]] w fun o w'=>d3p o∧Below w.heap.size w w':=by
 go_enter func205,ntmps205;go_wp2_with (first
  |(go_at_call 215;refine (b3i _ _ _ _ _ hn.1 hn.2 he.1 he.2 hm.1 hm.2 hd.1 hd.2).mono ?_;rintro e w'⟨rfl,hb_⟩;obtain⟨p,rfl⟩:=a0e hb_;clear hb_)
  |fail)
 all_goals
  go_ret;exact⟨⟨_,rfl⟩,zC⟩
theorem c5z (x y d px py:Int)(w:World)(hy:a0k y)(hd:a0k d)(hp:a0k py):Calls prog 204 #[.agg #[.int .i64 x,.int .i64 y,.int .i64 d],.agg #[.int .i64 px,.int .i64 py]] w fun o w'=>d3g o∧Below w.heap.size w w':=by
 go_enter func204,ntmps204;go_wp2_with (first
  |(go_at_call 205;refine (b4x _ _ _ _ _ hy hd hp ⟨by decide,by decide⟩).mono ?_;rintro e w'⟨⟨r,rfl⟩,hb_⟩;obtain⟨p,rfl⟩:=a0e hb_;clear hb_)
  |fail)
 all_goals
  go_ret;exact⟨⟨_,rfl⟩,zC⟩
theorem c6a (n a b c d:Int)(w:World)(hn:a0k n)(ha:a0k a)(hb:a0k b)(hc:a0k c)(hd:a0k d):Calls prog 203 #[.int .i64 n,.agg #[.int .i64 a,.int .i64 b],.agg #[.int .i64 c,.int .i64 d]] w fun o w'=>d3p o∧Below w.heap.size w w':=by
 go_enter func203,ntmps203;go_wp2_with (first
  |(go_at_call 205;refine (b4x _ _ _ _ _ hn ⟨by decide,by decide⟩ (by first|exact ha|exact hc) (by first|exact hb|exact hd)).mono ?_;rintro e w'⟨⟨r,rfl⟩,hb_⟩;obtain⟨p,rfl⟩:=a0e hb_;clear hb_)
  |fail)
 all_goals
  go_ret;exact⟨⟨_,rfl⟩,zC⟩
end
end Go.Proofs.YtfocdbjceedagaaGreatDoor
