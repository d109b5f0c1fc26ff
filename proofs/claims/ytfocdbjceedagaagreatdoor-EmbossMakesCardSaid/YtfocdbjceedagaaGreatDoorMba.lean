/-
  Parts.
-/
import Derived.Test.YtfocdbjceedagaaGreatDoorMaz
set_option linter.unusedVariables false
set_option linter.unusedSimpArgs false
set_option maxHeartbeats 4000000
set_option maxRecDepth 100000
namespace Go.Proofs.YtfocdbjceedagaaGreatDoor
open Tryz
section
open Go Go.RowKit Go.Shelf Go.Lib
attribute [local go_sem] Oper.semAt_some
attribute [local go_sem ↓] Go.wp_at_zero Go.wp_at_succ
theorem a6t {α:Type}{E:El α}(hE:E.Ok){W:World}{base B:Nat}{l:List α}(h:Blk W B (l.flatMap E.enc).toArray E.t)(hb:base<=B)(hl:l.length<=1000000):W.ownsRow base E.t E.s (.slice (some ⟨B,0,none⟩) l.length l.length) l.length (l.flatMap E.enc):=by
 refine⟨a0v hE l,.inr ⟨B,l.length,(l.flatMap E.enc).toArray,rfl,hb,h,yR _,by unfold maxLen;omega,by simp[a0v hE l],?_⟩⟩;rw[<-a0v hE l];exact List.take_length
theorem PlanIn.up {W W':World}{v:Value}{p:Pn}(h:PlanIn W v p)(hb:Below W.heap.size W W'):PlanIn W' v p:=by
 obtain⟨dv,kv,lv,rfl,⟨h1,h2⟩,⟨h3,h4⟩,h5,h6⟩:=h.ex;exact⟨dv,kv,lv,rfl,⟨h1.up hb,h2⟩,⟨h3.up hb,h4⟩,h5.up hb,h6⟩
theorem d8v (p1 k1 i1:Int)(p2 k2 i2:Int)(w:World):(binOp .eql 68 (.agg #[.int .i64 p1,.int .i64 k1,.int .i64 i1]) (.agg #[.int .i64 p2,.int .i64 k2,.int .i64 i2])).run prog w= .ok (.bool (decide ((⟨p1,k1,i1⟩:Lf)=⟨p2,k2,i2⟩))) w:=by
 have u3:=underlying3;have a3:=isAgg3;have z3:=sizeOf3;have hS:prog.underlying 68=some (.struct (prog.fieldsOf 68)):=by kernel_rfl
 have hp:prog.stoodInHeld 68=false:=by kernel_rfl
 rw[run_eql_struct,show(10000:Nat)=9999+1 from rfl,run_equalIn_agg w 9999 68 _ _ hS hp];simp only[Program.fieldsOf,underlying68];go_simp;by_cases h1:p1=p2 <;> by_cases h2:k1=k2 <;> by_cases h3:i1=i2 <;> simp[h1,h2,h3]
structure San (n1 B b3:Nat)(da ka la:Option Addr)(dc kc lc:Nat)(W:World):Prop where
 m:Blk W n1 #[.slice none 0 0,.slice none 0 0,.slice none 0 0,.slice (some ⟨B,0,none⟩) 4 4] 37
 s:Blk W (n1+1) #[.int .i64 exS30.ax,.int .i64 exS30.ay,.int .i64 exS30.st,.int .i64 exS30.w,.int .i64 exS30.h,.int .i64 exS30.g] 28
 p:Blk W b3 #[.slice da 17 dc,.slice ka 2 kc,.slice la 2 lc] 45
 L:Lst plE W.heap.size W (.slice (some ⟨B,0,none⟩) 4 4) exL
 P:PlanIn W (a3s (.slice da 17 dc) (.slice ka 2 kc) (.slice la 2 lc)) exPl
theorem San.up {n1 B b3:Nat}{da ka la:Option Addr}{dc kc lc:Nat}{W W':World}(h:San n1 B b3 da ka la dc kc lc W)(hb:Below W.heap.size W W'):San n1 B b3 da ka la dc kc lc W' :=
 ⟨h.m.below hb h.m.lt,h.s.below hb h.s.lt,h.p.below hb h.p.lt,h.L.up hb,h.P.up hb⟩
theorem San.cells {n1 B b3:Nat}{da ka la:Option Addr}{dc kc lc:Nat}{W:World}(h:San n1 B b3 da ka la dc kc lc W):(W.cell? ⟨n1,0,none⟩=some (.slice none 0 0)/\W.cell? ⟨n1,1,none⟩=some (.slice none 0 0)/\W.cell? ⟨n1,2,none⟩=some (.slice none 0 0)/\W.cell? ⟨n1,3,none⟩=some (.slice (some ⟨B,0,none⟩) 4 4))/\(W.cell? ⟨n1+1,0,none⟩=some (.int .i64 exS30.ax)/\W.cell? ⟨n1+1,1,none⟩=some (.int .i64 exS30.ay)/\W.cell? ⟨n1+1,2,none⟩=some (.int .i64 exS30.st)/\W.cell? ⟨n1+1,3,none⟩=some (.int .i64 exS30.w)/\W.cell? ⟨n1+1,4,none⟩=some (.int .i64 exS30.h)/\W.cell? ⟨n1+1,5,none⟩=some (.int .i64 exS30.g))/\(W.cell? ⟨b3,0,none⟩=some (.slice da 17 dc)/\W.cell? ⟨b3,1,none⟩=some (.slice ka 2 kc)/\W.cell? ⟨b3,2,none⟩=some (.slice la 2 lc)) :=
 ⟨⟨h.m.cell 0,h.m.cell 1,h.m.cell 2,h.m.cell 3⟩,⟨h.s.cell 0,h.s.cell 1,h.s.cell 2,h.s.cell 3,h.s.cell 4,h.s.cell 5⟩,⟨h.p.cell 0,h.p.cell 1,h.p.cell 2⟩⟩
theorem d4d (X:World)(v:Value)(h:Lst inE X.heap.size X v [3,1,2,4]):Calls prog 13 #[v,.slice (some ⟨X.heap.size,0,none⟩) 4 4] (X.alloc (.cells #[.int .i64 3,.int .i64 1,.int .i64 2,.int .i64 4] 3)) λe w'=>e= .returned (.bool true)/\Below X.heap.size X w':=by
 have hb:Below X.heap.size X (X.alloc (.cells #[.int .i64 3,.int .i64 1,.int .i64 2,.int .i64 4] 3)):=(zR _ _).alloc (yR _) _;refine(b9u v (.slice (some ⟨X.heap.size,0,none⟩) 4 4) [3,1,2,4] _ (h.up hb) (a0h b3b (l:=[3,1,2,4]) (a6t b3b (l:=[3,1,2,4]) (Blk.new X _ _) (yR _) jM) jM) jM).mono ?_;rintro e w'⟨rfl,h2⟩;exact⟨rfl,hb.trans (h2.mono hb.size)⟩
theorem San.parts {n1 B b3:Nat}{da ka la:Option Addr}{dc kc lc:Nat}{W:World}(h:San n1 B b3 da ka la dc kc lc W):(Lst dtE W.heap.size W (.slice da 17 dc) exPl.dots/\Frm (.slice da 17 dc) exPl.dots.length)/\(Lst keE W.heap.size W (.slice ka 2 kc) exPl.keys/\Frm (.slice ka 2 kc) exPl.keys.length)/\Lst lfE W.heap.size W (.slice la 2 lc) exPl.left/\Frm (.slice la 2 lc) exPl.left.length:=by
 obtain⟨dv,kv,lv,hpv,h1,h2,h3⟩:=h.P.ex;simp only[Value.agg.injEq,Array.mk.injEq,List.cons.injEq,and_true]at hpv;obtain⟨rfl,rfl,rfl⟩:=hpv;exact⟨h1,h2,h3⟩
theorem e0d {n1 B b3:Nat}{da ka la:Option Addr}{dc kc lc:Nat}{W:World}(h:San n1 B b3 da ka la dc kc lc W):Calls prog 16 #[shV exS30,a3s (.slice da 17 dc) (.slice ka 2 kc) (.slice la 2 lc),.int .i64 10,.int .i64 10] W λe w'=>e= .returned (.tuple #[.int .i64 3,.int .i64 1])/\Below W.heap.size W w':=by
 have h1:=b6u exS30 (.slice da 17 dc) (.slice ka 2 kc) (.slice la 2 lc) exPl.dots 10 10 W h.parts.1.1 h.parts.1.2;rw[d3y]at h1;exact h1
theorem e0e {n1 B b3:Nat}{da ka la:Option Addr}{dc kc lc:Nat}{W:World}(h:San n1 B b3 da ka la dc kc lc W):Calls prog 16 #[shV exS30,a3s (.slice da 17 dc) (.slice ka 2 kc) (.slice la 2 lc),.int .i64 9,.int .i64 9] W λe w'=>e= .returned (.tuple #[.int .i64 0,.int .i64 0])/\Below W.heap.size W w':=by
 have h1:=b6u exS30 (.slice da 17 dc) (.slice ka 2 kc) (.slice la 2 lc) exPl.dots 9 9 W h.parts.1.1 h.parts.1.2;rw[d3z]at h1;exact h1
theorem d7e :a2k exS30 [] (a0t exL)=exPl:=by rw[b3e];rfl
theorem a8y :a1g exS30=0:=by decide +kernel
theorem d4e :∀p∈exL,PcOk p/\p.cls.size<=1000:=by
 intro p hp;simp only[exL,List.mem_cons,List.not_mem_nil,or_false]at hp;rcases hp with rfl|rfl|rfl|rfl
 all_goals exact⟨⟨jM,jM,jM,jM,jM⟩,jM⟩
theorem d7f :∀d∈exPl.dots,Sm d:=c2r (a4h a8y) [] exO
theorem d5l :∀x∈exPl.left,fits x.i:=by
 rw[b6z];intro x hx;simp only[List.mem_cons,List.not_mem_nil,or_false]at hx;rcases hx with rfl|rfl
 all_goals decide
theorem c6w {α:Type}{E:El α}{n0:Nat}{W:World}{a:Option Addr}{n m c k:Nat}{l:List α}(h:Lst E n0 W (.slice a n c) l)(hk:k<=l.length)(hm:(l.take k).length=m):Lst E n0 W (.slice a m c) (l.take k):=by
 obtain⟨a',c',e,h1,h2,h3⟩:=h;simp only[Value.slice.injEq]at e;obtain⟨rfl,-,rfl⟩:=e;have hlt:(l.take k).length<=l.length:=by rw[List.length_take];omega
 refine⟨a,c,by rw[hm],oM,oM,λj hj=> ?_⟩;obtain⟨b,off,h4,h5,h6⟩:=h3 j oM;exact⟨b,off,h4,h5,λi hi=>by rw[List.getElem_take];exact h6 i hi⟩
theorem c6x {α:Type}{a:Option Addr}{n m c k:Nat}{l:List α}(h:Frm (.slice a n c) l.length)(hn:n≠0)(hm:(l.take k).length=m):Frm (.slice a m c) (l.take k).length:=by
 rcases h with h|⟨b,o,c',h⟩
 ·simp only[Value.slice.injEq]at h
  exact absurd h.2.1 hn
 ·simp only[Value.slice.injEq]at h
  obtain⟨rfl,-,rfl⟩:=h;exact .inr ⟨b,o,c,by rw[hm]⟩
structure San2 (n1 B b3 BL:Nat)(da ka la:Option Addr)(dc kc lc:Nat)(W:World):Prop where
 b:San n1 B b3 da ka la dc kc lc W
 l:Blk W BL #[.slice da 16 dc,.slice ka 2 kc,.slice la 2 lc] 45
 o:Blk W (BL+1) #[.slice da 17 dc,.slice ka 2 kc,.slice (some ⟨BL+1+1,0,none⟩) 2 2] 45
 pl:PlanIn W (a3s (.slice da 16 dc) (.slice ka 2 kc) (.slice la 2 lc)) b9t
 po:PlanIn W (a3s (.slice da 17 dc) (.slice ka 2 kc) (.slice (some ⟨BL+1+1,0,none⟩) 2 2)) b7a
section
variable {n1 B b3 BL:Nat}{da ka la:Option Addr}{dc kc lc:Nat}{W W':World}
theorem San2.up (h:San2 n1 B b3 BL da ka la dc kc lc W)(hb:Below W.heap.size W W'):San2 n1 B b3 BL da ka la dc kc lc W' :=
 ⟨h.b.up hb,h.l.below hb h.l.lt,h.o.below hb h.o.lt,h.pl.up hb,h.po.up hb⟩
theorem San2.cells (h:San2 n1 B b3 BL da ka la dc kc lc W):(W.cell? ⟨BL,0,none⟩=some (.slice da 16 dc)/\W.cell? ⟨BL,1,none⟩=some (.slice ka 2 kc)/\W.cell? ⟨BL,2,none⟩=some (.slice la 2 lc))/\(W.cell? ⟨BL+1,0,none⟩=some (.slice da 17 dc)/\W.cell? ⟨BL+1,1,none⟩=some (.slice ka 2 kc)/\W.cell? ⟨BL+1,2,none⟩=some (.slice (some ⟨BL+1+1,0,none⟩) 2 2)) :=
 ⟨⟨h.l.cell 0,h.l.cell 1,h.l.cell 2⟩,⟨h.o.cell 0,h.o.cell 1,h.o.cell 2⟩⟩
theorem d8w (h:San2 n1 B b3 BL da ka la dc kc lc W):Calls prog 21 #[a3s (.slice da 17 dc) (.slice ka 2 kc) (.slice la 2 lc),a3s (.slice da 17 dc) (.slice ka 2 kc) (.slice la 2 lc)] W λe w'=>e= .returned (.bool true)/\Below W.heap.size W w':=by
 have h1:=b5c _ _ exPl exPl W h.b.P h.b.P;rw[d4a]at h1;exact h1
theorem d8x (h:San2 n1 B b3 BL da ka la dc kc lc W):Calls prog 21 #[a3s (.slice da 17 dc) (.slice ka 2 kc) (.slice la 2 lc),a3s (.slice da 16 dc) (.slice ka 2 kc) (.slice la 2 lc)] W λe w'=>e= .returned (.bool false)/\Below W.heap.size W w':=by
 have h1:=b5c _ _ exPl b9t W h.b.P h.pl;rw[d4b]at h1;exact h1
theorem d0k (W:World):Wys W.heap.size W (.slice none 0 0) []:=⟨none,0,rfl,λj hj=>absurd hj vM⟩
theorem e0f (h:San2 n1 B b3 BL da ka la dc kc lc W)(hPow:∀W',Below W.heap.size W W'->Pow W'):Calls prog 19 #[b7q (.slice none 0 0) (.slice none 0 0) (.slice none 0 0) (.slice (some ⟨B,0,none⟩) 4 4),shV exS30,a3s (.slice da 17 dc) (.slice ka 2 kc) (.slice la 2 lc)] W λe w'=>e= .returned (.int .i64 0)/\Below W.heap.size W w' :=
 a7w exS30 jM jM a8y (.slice none 0 0) (.slice none 0 0) (.slice none 0 0) (.slice (some ⟨B,0,none⟩) 4 4) _ exL [] exPl W h.b.L (.inr ⟨_,_,_,rfl⟩) jM d4e (d0k _) vM vM vM hPow h.b.P d7f (by rw[a9u];decide) d5l 0 (by rw[b3e];exact d7b)
theorem e0g (h:San2 n1 B b3 BL da ka la dc kc lc W)(hPow:∀W',Below W.heap.size W W'->Pow W'):Calls prog 19 #[b7q (.slice none 0 0) (.slice none 0 0) (.slice none 0 0) (.slice (some ⟨B,0,none⟩) 4 4),shV exS30,a3s (.slice da 16 dc) (.slice ka 2 kc) (.slice la 2 lc)] W λe w'=>e= .returned (.int .i64 42)/\Below W.heap.size W w' :=
 a7w exS30 jM jM a8y (.slice none 0 0) (.slice none 0 0) (.slice none 0 0) (.slice (some ⟨B,0,none⟩) 4 4) _ exL [] b9t W h.b.L (.inr ⟨_,_,_,rfl⟩) jM d4e (d0k _) vM vM vM hPow h.pl (λd hd=>d7f d (List.mem_of_mem_take hd)) (Nat.le_trans (List.length_take_le 16 exPl.dots) jM) d5l 42 (by rw[b3e];exact d7c)
theorem e0h (h:San2 n1 B b3 BL da ka la dc kc lc W)(hPow:∀W',Below W.heap.size W W'->Pow W'):Calls prog 19 #[b7q (.slice none 0 0) (.slice none 0 0) (.slice none 0 0) (.slice (some ⟨B,0,none⟩) 4 4),shV exS30,a3s (.slice da 17 dc) (.slice ka 2 kc) (.slice (some ⟨BL+1+1,0,none⟩) 2 2)] W λe w'=>e= .returned (.int .i64 42)/\Below W.heap.size W w' :=
 a7w exS30 jM jM a8y (.slice none 0 0) (.slice none 0 0) (.slice none 0 0) (.slice (some ⟨B,0,none⟩) 4 4) _ exL [] b7a W h.b.L (.inr ⟨_,_,_,rfl⟩) jM d4e (d0k _) vM vM vM hPow h.po d7f (by show exPl.dots.length<=10000;rw[a9u];decide) (by
  intro x hx;simp only[b7a,List.mem_cons,List.not_mem_nil,or_false]at hx;rcases hx with rfl|rfl
  all_goals decide) 42 (by rw[b3e];exact d7d)
end
theorem d4f (w:World)(hPow:∀W,Below w.heap.size w W->Pow W):Calls prog 8 #[] w λe w'=>e= .returned (.bool true)/\Below w.heap.size w w':=by
 go_enter func8,ntmps8;go_upto_region 2 with(first
  |(go_at_call 29;refine(d0i _).mono ?_;rintro e w1⟨B,rfl,hB,kB,hb1⟩))
 have km:=(Blk.new w1 #[.slice none 0 0,.slice none 0 0,.slice none 0 0,.slice (some ⟨B,0,none⟩) 4 4] 37).alloc (.cells #[.int .i64 exS30.ax,.int .i64 exS30.ay,.int .i64 exS30.st,.int .i64 exS30.w,.int .i64 exS30.h,.int .i64 exS30.g] 28);have ks:=Blk.new (w1.alloc (.cells #[.slice none 0 0,.slice none 0 0,.slice none 0 0,.slice (some ⟨B,0,none⟩) 4 4] 37)) #[.int .i64 exS30.ax,.int .i64 exS30.ay,.int .i64 exS30.st,.int .i64 exS30.w,.int .i64 exS30.h,.int .i64 exS30.g] 28;obtain⟨W2,hW2⟩:=zE ((w1.alloc (.cells #[.slice none 0 0,.slice none 0 0,.slice none 0 0,.slice (some ⟨B,0,none⟩) 4 4] 37)).alloc (.cells #[.int .i64 exS30.ax,.int .i64 exS30.ay,.int .i64 exS30.st,.int .i64 exS30.w,.int .i64 exS30.h,.int .i64 exS30.g] 28));have hb12:Below w1.heap.size w1 W2:=by rw[<-hW2];exact((zR _ _).alloc (yR _) _).alloc vM _
 simp only[World.size_alloc]at ks;rw[hW2]at km ks ⊢;clear hW2;have hbw2:=hb1.trans (hb12.mono hb1.size);have hL2:Lst plE W2.heap.size W2 (.slice (some ⟨B,0,none⟩) 4 4) exL:=a0h a4f (a6t a4f (kB.below hb12 kB.lt) (yR B) jM) jM;obtain⟨n1,hn1⟩:=zE w1.heap.size;rw[hn1]at km ks ⊢;have hwn:w.heap.size<=n1:=by have:=hb1.size;omega
 clear hn1 hb12 hb1 kB hB;have hWy:∀W:World,Wys W.heap.size W (.slice none 0 0) []:=λW=>⟨none,0,rfl,λj hj=>absurd hj vM⟩
 have hMk:=b4z exS30 jM jM a8y (.slice none 0 0) (.slice none 0 0) (.slice none 0 0) (.slice (some ⟨B,0,none⟩) 4 4) exL [] W2 hL2 (.inr ⟨_,_,_,rfl⟩) jM d4e (hWy _) vM vM vM (λW h=>hPow W (hbw2.trans (h.mono hbw2.size)));rw[d7e]at hMk;obtain⟨m0,m1,m2,m3⟩:=zN4 km;obtain⟨s0,s1,s2,s3,s4,s5⟩:=zN6 ks;go_upto_region 3 with(first
  |(go_at_call 10;(with_reducible refine hMk.mono ?_);rintro e w3⟨v,rfl,hP,hb3⟩
    obtain⟨dv,kv,lv,rfl,⟨hd,hdf⟩,⟨hk,hkf⟩,hl,hlf⟩:=hP.ex;obtain⟨da,dc,e1,hdc⟩:=hd.form;obtain⟨ka,kc,e2,-⟩:=hk.form;obtain⟨la,lc,e3,-⟩:=hl.form;rw[a9u]at e1 hdc;rw[d0j]at e2;rw[b6z]at e3;subst e1 e2 e3))
 clear hMk m0 m1 m2 m3 s0 s1 s2 s3 s4 s5 hd hdf hk hkf hl hlf;have hb34:Below w3.heap.size w3 (w3.alloc (.cells #[.slice da 17 dc,.slice ka 2 kc,.slice la 2 lc] 45)):=(zR _ _).alloc (yR _) _;have hb24:=hb3.trans (hb34.mono hb3.size);have hS4:San n1 B w3.heap.size da ka la dc kc lc (w3.alloc (.cells #[.slice da 17 dc,.slice ka 2 kc,.slice la 2 lc] 45)):=⟨km.below hb24 km.lt,ks.below hb24 ks.lt,Blk.new _ _ _,hL2.up hb24,hP.up hb34⟩;have hbw4:=hbw2.trans (hb24.mono hbw2.size);obtain⟨W4,hW4⟩:=zE (w3.alloc (.cells #[.slice da 17 dc,.slice ka 2 kc,.slice la 2 lc] 45));obtain⟨b3,hb3'⟩:=zE w3.heap.size;rw[hW4]at hS4 hbw4;rw[hW4];rw[hb3']at hS4;rw[hb3'];clear hW4 hb3' hb34 hb24 hP hb3 km ks hL2 hbw2;obtain⟨⟨m0,m1,m2,m3⟩,-,⟨p0,p1,p2⟩⟩:=hS4.cells;have hOr:=b9p (.slice none 0 0) (.slice none 0 0) (.slice none 0 0) (.slice (some ⟨B,0,none⟩) 4 4) exL W4 hS4.L (.inr ⟨_,_,_,rfl⟩) jM;rw[b3e,d4c]at hOr;go_upto_region 5 with(first
  |(go_at_call 14;(with_reducible refine hOr.mono ?_);rintro e w5⟨v5,rfl,hv5,-,hb5⟩)
  |(go_at_call 13;(with_reducible refine(d4d _ _ hv5).mono ?_);rintro e w6⟨rfl,hb6⟩))
 have hS6:=(hS4.up hb5).up hb6;have hbw6:=(hbw4.trans (hb5.mono hbw4.size)).trans (hb6.mono (Nat.le_trans hbw4.size hb5.size));clear hOr m0 m1 m2 m3 p0 p1 p2 hv5 hb5 hb6 hS4 hbw4;obtain⟨-,-,⟨p0,p1,p2⟩⟩:=hS6.cells;obtain⟨dv,kv,lv,hpv,-,⟨hk,-⟩,hl,-⟩:=hS6.P.ex;simp only[Value.agg.injEq,Array.mk.injEq,List.cons.injEq,and_true]at hpv;obtain⟨rfl,rfl,rfl⟩:=hpv;rw[d0j]at hk;rw[b6z]at hl;obtain⟨kb,ko,kc',hv1,-,-,hkc⟩:=hk.some_ jM;obtain⟨lb,lo,lc',hv2,-,-,hlc⟩:=hl.some_ jM;simp only[Value.slice.injEq]at hv1 hv2;obtain⟨rfl,-,rfl⟩:=hv1;obtain⟨rfl,-,rfl⟩:=hv2;obtain⟨l0,l1,l2,l3,l4,l5⟩:w6.cell? ⟨lb,lo,none⟩=some (.int .i64 2)/\w6.cell? ⟨lb,lo+1,none⟩=some (.int .i64 3)/\w6.cell? ⟨lb,lo+2,none⟩=some (.int .i64 1)/\w6.cell? ⟨lb,lo+3,none⟩=some (.int .i64 4)/\w6.cell? ⟨lb,lo+3+1,none⟩=some (.int .i64 0)/\w6.cell? ⟨lb,lo+3+2,none⟩=some (.int .i64 0):=⟨hlc 0 jM 0 (show 0<3 by decide),hlc 0 jM 1 (show 1<3 by decide),hlc 0 jM 2 (show 2<3 by decide),hlc 1 jM 0 (show 0<3 by decide),hlc 1 jM 1 (show 1<3 by decide),hlc 1 jM 2 (show 2<3 by decide)⟩;obtain⟨k0,k1,k2,k3,k4,k5⟩:w6.cell? ⟨kb,ko,none⟩=some (.int .i64 3)/\w6.cell? ⟨kb,ko+1,none⟩=some (.int .i64 3)/\w6.cell? ⟨kb,ko+2,none⟩=some (.string ⟨#[32,21,1,5]⟩)/\w6.cell? ⟨kb,ko+3,none⟩=some (.int .i64 1)/\w6.cell? ⟨kb,ko+3+1,none⟩=some (.int .i64 1)/\w6.cell? ⟨kb,ko+3+2,none⟩=some (.string ⟨#[32,17,7,13]⟩):=⟨hkc 0 jM 0 (show 0<3 by decide),hkc 0 jM 1 (show 1<3 by decide),hkc 0 jM 2 (show 2<3 by decide),hkc 1 jM 0 (show 0<3 by decide),hkc 1 jM 1 (show 1<3 by decide),hkc 1 jM 2 (show 2<3 by decide)⟩;have hq1:=λw=>d8v 2 3 1 2 3 1 w
 have hq2:=λw=>d8v 4 0 0 4 0 0 w
 clear hkc hlc hk hl;go_upto_region 6 with fail;clear p0 p1 p2 l0 l1 l2 l3 l4 l5 k0 k1 k2 k3 k4 k5 hq1 hq2;have c6:=hS6.cells;obtain⟨-,⟨s0,s1,s2,s3,s4,s5⟩,⟨p0,p1,p2⟩⟩:=c6;go_upto_region 8 with(first
  |(go_at_call 16;(with_reducible refine(e0d hS6).mono ?_);rintro e w7⟨rfl,hb7⟩;have hS7:=hS6.up hb7;have c7:=hS7.cells;obtain⟨-,⟨s0,s1,s2,s3,s4,s5⟩,⟨p0,p1,p2⟩⟩:=c7)
  |(go_at_call 16;(with_reducible refine(e0e hS7).mono ?_);rintro e w8⟨rfl,hb8⟩;have hS8:=hS7.up hb8))
 have hbw8:=(hbw6.trans (hb7.mono hbw6.size)).trans (hb8.mono (Nat.le_trans hbw6.size hb7.size));clear s0 s1 s2 s3 s4 s5 p0 p1 p2 hS6 hS7 hb7 hb8 hbw6;obtain⟨-,-,⟨p0,p1,p2⟩⟩:=hS8.cells;have hl:=hS8.parts.2.2.1;rw[b6z]at hl;obtain⟨lb',lo',lc',hv2,-,-,hlc⟩:=hl.some_ jM;simp only[Value.slice.injEq,Option.some.injEq,Addr.mk.injEq,and_true]at hv2;obtain⟨⟨rfl,rfl⟩,-,rfl⟩:=hv2;obtain⟨l3,l4,l5⟩:w8.cell? ⟨lb,lo+3,none⟩=some (.int .i64 4)/\w8.cell? ⟨lb,lo+3+1,none⟩=some (.int .i64 0)/\w8.cell? ⟨lb,lo+3+2,none⟩=some (.int .i64 0):=⟨hlc 1 jM 0 (show 0<3 by decide),hlc 1 jM 1 (show 1<3 by decide),hlc 1 jM 2 (show 2<3 by decide)⟩;have hdI:(16:Int)<=(dc:Int):=oM;clear hlc hl;go_upto_region 12 with fail;have hb89:Below w8.heap.size w8 (((w8.alloc (.cells #[.slice da 16 dc,.slice (some ⟨kb,ko,none⟩) 2 kc,.slice (some ⟨lb,lo,none⟩) 2 lc] 45)).alloc (.cells #[.slice da 17 dc,.slice (some ⟨kb,ko,none⟩) 2 kc,.slice (some ⟨w8.heap.size+1+1,0,none⟩) 2 2] 45)).alloc (.cells #[.int .i64 2,.int .i64 3,.int .i64 3,.int .i64 4,.int .i64 0,.int .i64 0] 68)):=(((zR _ _).alloc (yR _) _).alloc vM _).alloc uM _;have kL:=((Blk.new w8 #[.slice da 16 dc,.slice (some ⟨kb,ko,none⟩) 2 kc,.slice (some ⟨lb,lo,none⟩) 2 lc] 45).alloc (.cells #[.slice da 17 dc,.slice (some ⟨kb,ko,none⟩) 2 kc,.slice (some ⟨w8.heap.size+1+1,0,none⟩) 2 2] 45)).alloc (.cells #[.int .i64 2,.int .i64 3,.int .i64 3,.int .i64 4,.int .i64 0,.int .i64 0] 68);have kO:=(Blk.new (w8.alloc (.cells #[.slice da 16 dc,.slice (some ⟨kb,ko,none⟩) 2 kc,.slice (some ⟨lb,lo,none⟩) 2 lc] 45)) #[.slice da 17 dc,.slice (some ⟨kb,ko,none⟩) 2 kc,.slice (some ⟨w8.heap.size+1+1,0,none⟩) 2 2] 45).alloc (.cells #[.int .i64 2,.int .i64 3,.int .i64 3,.int .i64 4,.int .i64 0,.int .i64 0] 68);have kA:=Blk.new ((w8.alloc (.cells #[.slice da 16 dc,.slice (some ⟨kb,ko,none⟩) 2 kc,.slice (some ⟨lb,lo,none⟩) 2 lc] 45)).alloc (.cells #[.slice da 17 dc,.slice (some ⟨kb,ko,none⟩) 2 kc,.slice (some ⟨w8.heap.size+1+1,0,none⟩) 2 2] 45)) #[.int .i64 2,.int .i64 3,.int .i64 3,.int .i64 4,.int .i64 0,.int .i64 0] 68;simp only[World.size_alloc]at kO kA;obtain⟨W9,hW9⟩:=zE (((w8.alloc (.cells #[.slice da 16 dc,.slice (some ⟨kb,ko,none⟩) 2 kc,.slice (some ⟨lb,lo,none⟩) 2 lc] 45)).alloc (.cells #[.slice da 17 dc,.slice (some ⟨kb,ko,none⟩) 2 kc,.slice (some ⟨w8.heap.size+1+1,0,none⟩) 2 2] 45)).alloc (.cells #[.int .i64 2,.int .i64 3,.int .i64 3,.int .i64 4,.int .i64 0,.int .i64 0] 68));rw[hW9]at hb89 kL kO kA ⊢;have hbw9:=hbw8.trans (hb89.mono hbw8.size);have hS9:=hS8.up hb89;obtain⟨BL,hBL⟩:=zE w8.heap.size;rw[hBL]at kL kO kA ⊢;clear hW9 hBL hb89 hS8 hbw8 p0 p1 p2 l3 l4 l5;have hpt:=hS9.parts;have hSS:San2 n1 B b3 BL da (some ⟨kb,ko,none⟩) (some ⟨lb,lo,none⟩) dc kc lc W9 :=
  ⟨hS9,kL,kO,⟨_,_,_,rfl,⟨c6w (k:=16) hpt.1.1 (by rw[a9u];decide) (by rw[List.length_take,a9u];rfl),c6x hpt.1.2 jM (by rw[List.length_take,a9u];rfl)⟩,hpt.2.1,hpt.2.2⟩,
   ⟨_,_,_,rfl,hpt.1,hpt.2.1,a0h b8j (l:=[⟨2,3,3⟩,⟨4,0,0⟩]) (a6t b8j (l:=[⟨2,3,3⟩,⟨4,0,0⟩]) kA (yR _) jM) jM,.inr ⟨_,_,_,rfl⟩⟩⟩
 clear hpt kL kO kA hS9;obtain⟨-,-,⟨p0,p1,p2⟩⟩:=hSS.b.cells;obtain⟨⟨q0,q1,q2⟩,-⟩:=hSS.cells;go_upto_region 13 with(first
  |(go_at_call 21;(with_reducible refine(d8w hSS).mono ?_);rintro e w10⟨rfl,hb10⟩;have hS10:=hSS.up hb10;have c10:=hS10.b.cells;have d10:=hS10.cells;obtain⟨-,-,⟨p0,p1,p2⟩⟩:=c10;obtain⟨⟨q0,q1,q2⟩,-⟩:=d10)
  |(go_at_call 21;(with_reducible refine(d8x hS10).mono ?_);rintro e w11⟨rfl,hb11⟩))
 have hS11:=hS10.up hb11;have hbw11:=(hbw9.trans (hb10.mono hbw9.size)).trans (hb11.mono (Nat.le_trans hbw9.size hb10.size));clear p0 p1 p2 q0 q1 q2 hSS hS10 hb10 hb11 hbw9;obtain⟨⟨m0,m1,m2,m3⟩,⟨t0,t1,t2,t3,t4,t5⟩,⟨p0,p1,p2⟩⟩:=hS11.b.cells;have hP11:∀W,Below w11.heap.size w11 W->Pow W:=λW h=>hPow W (hbw11.trans (h.mono hbw11.size))
 go_wp2_with (first
  |(go_at_call 19;(with_reducible refine(e0f hS11 hP11).mono ?_);rintro e w12⟨rfl,hb12⟩;have hS12:=hS11.up hb12;have hP12:∀W,Below w12.heap.size w12 W->Pow W:=λW h=>hP11 W (hb12.trans (h.mono hb12.size));have c12:=hS12.b.cells;have d12:=hS12.cells;obtain⟨⟨m0,m1,m2,m3⟩,⟨t0,t1,t2,t3,t4,t5⟩,-⟩:=c12;obtain⟨⟨q0,q1,q2⟩,-⟩:=d12)
  |(go_at_call 19;(with_reducible refine(e0g hS12 hP12).mono ?_);rintro e w13⟨rfl,hb13⟩;have hS13:=hS12.up hb13;have hP13:∀W,Below w13.heap.size w13 W->Pow W:=λW h=>hP12 W (hb13.trans (h.mono hb13.size));have c13:=hS13.b.cells;have d13:=hS13.cells;obtain⟨⟨m0,m1,m2,m3⟩,⟨t0,t1,t2,t3,t4,t5⟩,-⟩:=c13;obtain⟨-,⟨q0,q1,q2⟩⟩:=d13)
  |(go_at_call 19;(with_reducible refine(e0h hS13 hP13).mono ?_);rintro e w14⟨rfl,hb14⟩))
 go_ret;exact⟨rfl,hbw11.trans ((hb12.trans ((hb13.trans (hb14.mono hb13.size)).mono hb12.size)).mono hbw11.size)⟩
end
section
open Go Go.RowKit Go.Shelf Go.Lib
variable{S:BS}{n:Nat}{v:Value}{W:World}
theorem d0l (hT:TW S W)(h:SL S W 26 v n):∃ps:List a0m,ps.length=n/\Pts W.heap.size W v ps:=by
 by_cases hn:n=0
 ·subst hn
  obtain⟨a,cap,rfl,-⟩:=h.form;exact⟨[],rfl,a,cap,rfl,λj hj=>absurd hj vM⟩
 ·obtain⟨b,off,cap,rfl,-,hS⟩:=h.some_ oM
  have H:∀k:Fin n,∃p:a0m,W.cell? ⟨b,off+k.1*2,none⟩=some (.int .i64 p.1)/\W.cell? ⟨b,off+k.1*2+1,none⟩=some (.int .i64 p.2):=λk=>by
   obtain⟨u0,c0,h0⟩:=h.cell hT a1s k.2 0 .int rfl;obtain⟨u1,c1,h1⟩:=h.cell hT a1s k.2 1 .int rfl;obtain⟨x,rfl,-⟩:=h0.i rfl;obtain⟨y,rfl,-⟩:=h1.i rfl;exact⟨(x,y),c0,c1⟩
  refine⟨List.ofFn λk=>Classical.choose (H k),by simp,some ⟨b,off,none⟩,cap,by simp,λj hj=>⟨b,off,rfl,hT.lt hS,?_⟩⟩;have hj':j<n:=by simpa using hj
  have:=Classical.choose_spec (H ⟨j,hj'⟩);simpa using this
theorem b3f (hT:TW S W)(h:SL S W 149 v n):∃ws:List Wy,ws.length=n/\Wys W.heap.size W v ws/\∀y∈ws,fits y.id/\y.line.length<=100:=by
 by_cases hn:n=0
 ·subst hn
  obtain⟨a,cap,rfl,-⟩:=h.form;exact⟨[],rfl,⟨a,cap,rfl,λj hj=>absurd hj vM⟩,λy hy=>absurd hy vM⟩
 ·obtain⟨b,off,cap,rfl,-,hS⟩:=h.some_ oM
  have H:∀k:Fin n,∃y:Wy,WyAt W.heap.size W b (off+k.1*8) y/\fits y.id/\y.line.length<=100:=λk=>by
   obtain⟨id,lv,m,lev,cs,ns,st,wt,ds,c0,c1,c2,c3,c4,c5,c6,c7,f0,hl,hm,-⟩:=h.way hT k.2;obtain⟨ps,hps,hP⟩:=d0l hT hl;exact⟨⟨id,ps,lv,lev,cs,ns,st,wt,ds⟩,⟨c0,c1,c2,c3,c4,c5,c6,c7,hP⟩,f0,by simp only;omega⟩
  refine⟨List.ofFn λk=>Classical.choose (H k),by simp,⟨some ⟨b,off,none⟩,cap,by simp,λj hj=>⟨b,off,rfl,hT.lt hS,?_⟩⟩,λy hy=> ?_⟩
  ·have hj':j<n:=by simpa using hj
   have:=(Classical.choose_spec (H ⟨j,hj'⟩)).1;simpa using this
  ·obtain⟨j,hj,rfl⟩:=List.getElem_of_mem hy
   have hj':j<n:=by simpa using hj
   have:=(Classical.choose_spec (H ⟨j,hj'⟩)).2;simpa using this
end
section
open Go Go.RowKit Go.Shelf
attribute [local go_sem] Oper.semAt_some
attribute [local go_sem ↓] Go.wp_at_zero Go.wp_at_succ
theorem d4g {W:World}{base base':Nat}{e:TypeId}{s:Nat}{v:Value}{n:Nat}{xs:List Value}(h:W.ownsRow base e s v n xs)(hb:base'<=base):W.ownsRow base' e s v n xs:=by
 exact yhp
def a7x (l:List Pc):Nat:=l.countP (λp=>decide (p.nm.size≠0))
structure OddR (ne nf nw:Nat)(l:List Pc)(ne' nf' nw':Nat)(l':List Pc):Prop where
 e:ne'<=ne+1
 f:nf'<=nf+1
 w:nw'<=nw+1
 p:l'.length<=l.length+82
 n:a7x l'<=a7x l+1
 ok:(∀p∈l,PcOk p)->∀p∈l',PcOk p
 cl:(∀p∈l,p.cls.size<=1000)->∀p∈l',p.cls.size<=1000
theorem OddR.refl (ne nf nw:Nat)(l:List Pc):OddR ne nf nw l ne nf nw l:=⟨oM,oM,oM,oM,oM,λh=>h,λh=>h⟩
abbrev qC (q0 q1 q2:Int):Array Value:= #[.int .i64 q0,.int .i64 q1,.int .i64 q2]
theorem b9v :∀(l:List Pc) (p:Nat) (y:Pc),a7x (l.set p y)<=a7x l+1
 |[],p,y=>by simp[a7x]
 |x::l,0,y=>by
  unfold a7x;rw[List.set_cons_zero,List.countP_cons,List.countP_cons];split <;> split <;> omega
 |x::l,p+1,y=>by
  have ih:=b9v l p y;unfold a7x at ih ⊢;rw[List.set_cons_succ,List.countP_cons,List.countP_cons];omega
theorem b3g (a b:List Pc):a7x (a++b)=a7x a+a7x b:=by unfold a7x;rw[List.countP_append]
theorem OddR.set {ne nf nw:Nat}{l:List Pc}{p:Nat}(hp:p<l.length){y:Pc}(hy:PcOk l[p]->PcOk y)(hc:l[p].cls.size<=1000->y.cls.size<=1000):OddR ne nf nw l ne nf nw (l.set p y) :=
 ⟨oM,oM,oM,by rw[List.length_set];omega,b9v l p y,λh q hq=>(List.mem_or_eq_of_mem_set hq).elim (h q) (λe=>e▸hy (h _ (List.getElem_mem hp))),λh q hq=>(List.mem_or_eq_of_mem_set hq).elim (h q) (λe=>e▸hc (h _ (List.getElem_mem hp)))⟩
theorem OddR.push {ne nf nw:Nat}{l:List Pc}{y:Pc}(hy:PcOk y)(hc:y.cls.size<=1000):OddR ne nf nw l ne nf nw (l++[y]) :=
 ⟨oM,oM,oM,by simp,by rw[b3g];have:a7x [y]<=1:=by{ unfold a7x;exact List.countP_le_length };omega,λh q hq=>(List.mem_append.1 hq).elim (h q) (λe=>by rw[List.mem_singleton]at e;exact e▸hy),λh q hq=>(List.mem_append.1 hq).elim (h q) (λe=>by rw[List.mem_singleton]at e;exact e▸hc)⟩
theorem OddR.del {ne nf nw:Nat}{l:List Pc}{p:Nat}(hp:p<l.length):OddR ne nf nw l ne nf nw (l.take p++l.drop (p+1)):=by
 have hs:(l.take p++l.drop (p+1)).Sublist l:=by
  conv=>rhs;rw[<-List.take_append_drop p l]
  refine List.Sublist.append (List.Sublist.refl _) ?_;rw[List.drop_eq_getElem_cons hp];exact List.sublist_cons_self _ _
 exact⟨oM,oM,oM,Nat.le_trans hs.length_le oM,Nat.le_trans (hs.countP_le) (Nat.le_succ _),λh q hq=>h q (hs.subset hq),λh q hq=>h q (hs.subset hq)⟩
theorem b9w {W:World}{base:Nat}{pa:Option Addr}{pc:Nat}{l:List Pc}(h:W.ownsRow base 66 7 (.slice pa l.length pc) l.length (l.flatMap plE.enc))(hl:l≠[]):∃g,pa=some ⟨g,0,none⟩/\l.length<=pc:=by
 rcases h.2 with⟨e,h0⟩|⟨g,cap,cur,e,hb,hgb,hc,-⟩
 ·exact absurd (List.eq_nil_of_length_eq_zero h0) hl
 ·simp only[Value.slice.injEq,true_and]at e
  obtain⟨rfl,rfl⟩:=e;exact⟨g,rfl,hc⟩
theorem OP.cellP {S0 S:BS}{W0 W:World}{L:a9o}{T:SlL}{g pc:Nat}{l:List Pc}(h:OP S0 W0 S W L T (.slice (some ⟨g,0,none⟩) l.length pc) l)(hl:l.length<=100000){p i:Nat}(hp:p<l.length)(hi:i<7):W.cell? ⟨g,p*7+i,none⟩=(plE.enc l[p])[i]?/\W.frozen? ⟨g,p*7+i,none⟩=false:=by
 obtain⟨b',off',cap',e,-,-,hc⟩:=(a0h a4f h.row oM).some_ oM;simp only[Value.slice.injEq,Option.some.injEq,Addr.mk.injEq]at e;obtain⟨⟨rfl,rfl,-⟩,-,-⟩:=e;have h1:=hc p hp i hi;rw[Nat.zero_add]at h1;exact⟨h1,h.row.frozenAt _⟩
theorem d4h {W:World}{base g pc:Nat}{l:List Pc}(h:W.ownsRow base 66 7 (.slice (some ⟨g,0,none⟩) l.length pc) l.length (l.flatMap plE.enc)){k:Nat}(hk:k<=l.length):W.ownsRow base 66 7 (.slice (some ⟨g,0,none⟩) k pc) (l.take k).length ((l.take k).flatMap plE.enc):=by
 have hkl:(l.take k).length=k:=by rw[List.length_take];omega
 have hf:(l.take k).flatMap plE.enc=(l.flatMap plE.enc).take (k*7):=by
  have e:(l.take k).flatMap plE.enc++(l.drop k).flatMap plE.enc=l.flatMap plE.enc:=by rw[<-List.flatMap_append,List.take_append_drop]
  rw[<-e,List.take_left' (by rw[a0v a4f,hkl])]
 rw[hkl];rcases h.2 with⟨e,h0⟩|⟨g',cap,cur,e,hb,hgb,hc,hm,hs,ht⟩
 ·cases e
 ·simp only[Value.slice.injEq,Option.some.injEq,Addr.mk.injEq,true_and,and_true]at e
  obtain⟨rfl,rfl⟩:=e;refine⟨by rw[a0v a4f,hkl],.inr ⟨g,pc,cur,rfl,hb,hgb,oM,hm,hs,?_⟩⟩;rw[hf,<-ht,List.take_take,Nat.min_eq_left (Nat.mul_le_mul_right _ hk)]
theorem d4i {W:World}{base:Nat}{e:TypeId}{s:Nat}{v:Value}{n:Nat}{xs:List Value}(h:W.ownsRow base e s v n xs):Frm v n:=by
 exact yjh
theorem Frm.or {a:Option Addr}{n cap:Nat}(h:Frm (.slice a n cap) n):(a=none/\n=0/\cap=0)\/∃b o,a=some ⟨b,o,none⟩:=by
 rcases h with hf|⟨b,o,c,hf⟩
 ·simp only[Value.slice.injEq]at hf
  exact .inl hf
 ·simp only[Value.slice.injEq]at hf
  exact .inr ⟨b,o,hf.1⟩
section
variable {α:Type}{E:El α}{W:World}{n0:Nat}{a:Option Addr}{cap k:Nat}{l:List α}
theorem b9x (hL:Lst E n0 W (.slice a l.length cap) l)(hF:Frm (.slice a l.length cap) l.length)(hk:k<=l.length):Lst E n0 W (.slice (if cap=k then a else a.map (·.add (k*E.s))) (l.length-k) (cap-k)) (l.drop k)/\Frm (.slice (if cap=k then a else a.map (·.add (k*E.s))) (l.length-k) (cap-k)) (l.drop k).length:=by
 rw[List.length_drop];have hc:l.length<=cap:=by
  obtain⟨a0,c0,e,hc⟩:=hL.form;simp only[Value.slice.injEq]at e;omega
 split
 ·rename_i he
  subst he;have h0:l.drop cap=[]:=List.drop_eq_nil_of_le hc;have h1:l.length-cap=0:=oM;rw[h0,h1,Nat.sub_self];rcases hF.or with⟨rfl,-,-⟩|⟨b,o,rfl⟩
  ·exact⟨Lst.nil _ _ _,.inl rfl⟩
  ·exact⟨⟨_,_,rfl,yR _,by simp,λj hj=>by simp at hj⟩,.inr ⟨_,_,_,rfl⟩⟩
 ·rename_i he
  rcases hF.or with⟨rfl,h0,rfl⟩|⟨b,o,rfl⟩
  ·omega
  ·have h1:=Lst.drop hL k hk
   have e:(Option.map (λx:Addr=>x.add (k*E.s)) (some ⟨b,o,none⟩))=some ⟨b,o+k*E.s,none⟩:=by rw[Option.map_some,Addr.add_lit]
   rw[e];exact⟨h1,.inr ⟨b,o+k*E.s,cap-k,rfl⟩⟩
end
theorem OP.setRow2 {S0 S:BS}{W0 W:World}{L:a9o}{T:SlL}{g cap:Nat}{l:List Pc}(h:OP S0 W0 S W L T (.slice (some ⟨g,0,none⟩) l.length cap) l){p i j:Nat}(hp:p<l.length)(hi:i<7)(hj:j<7){y1 y:Pc}{u v:Value}(he1:plE.enc y1=(plE.enc l[p]).set i u)(he:plE.enc y=(plE.enc y1).set j v) :
 OP S0 W0 S ((W.setCell ⟨g,p*7+i,none⟩ u).setCell ⟨g,p*7+j,none⟩ v) L T (.slice (some ⟨g,0,none⟩) l.length cap) (l.set p y):=by
 have h1:=h.setRow hp hi he1;have h2:OP S0 W0 S (W.setCell ⟨g,p*7+i,none⟩ u) L T (.slice (some ⟨g,0,none⟩) (l.set p y1).length cap) (l.set p y1):=by rw[List.length_set];exact h1
 have h3:=h2.setRow (p:=p) (y:=y) (u:=v) (by rw[List.length_set];exact hp) hj (by rw[List.getElem_set_self];exact he);rw[List.set_set,List.length_set]at h3;exact h3
section
variable {α:Type}{E:El α}{P:Program}{st:TypeId}
theorem El.append_joinO (hE:E.Ok)(hI:E.In P st)(W:World)(base:Nat)(v xv:Value)(l l2:List α)(ty:TypeId)(hv:W.ownsRow base E.t E.s v l.length (l.flatMap E.enc))(hsm:∃g c,v= .slice (some ⟨g,0,none⟩) l.length c){n0:Nat}(hx:Lst E n0 W xv l2)(hf:Frm xv l2.length)(hl:l.length+l2.length<=100000)(hb:base<=W.heap.size) :
 ∃v' W',(Builtin.append_ #[st,st] ty #[v,xv]).run P W= .ok v' W'/\W'.ownsRow base E.t E.s v' (l++l2).length ((l++l2).flatMap E.enc)/\W.grownBy W' v.ownBlock/\Below base W W'/\(∃g cap,v'= .slice (some ⟨g,0,none⟩) (l++l2).length cap)/\(v'.ownBlock=v.ownBlock\/v'.ownBlock=some W.heap.size):=by
 obtain⟨i0,z,hi0,hz0,hz1,hz2,hz3⟩:=hI.info;obtain⟨g,c,rfl⟩:=hsm;by_cases hne:l2=[]
 ·subst hne
  have hs:Src P i0.size st xv 0 [] W:=by
   exact yei
  have hlc:l.length+0<=c:=by
   exact yej
  have hr:=run_append_room_src (P:=P) W st st ty E.t i0 hI.under hi0 g 0 l.length c xv 0 [] hs hlc vM vM;refine⟨_,_,hr,?_,?_,?_,⟨g,c,?_⟩,.inl rfl⟩
  ·rw[List.append_nil];exact hv
  ·exact⟨rfl,rfl,rfl,yR _,λ_ _ _=>rfl⟩
  ·exact⟨rfl,rfl,rfl,yR _,λ_ _=>rfl⟩
  ·rw[List.append_nil];rfl
 ·have hpos:0<l2.length:=List.length_pos_iff.2 hne
  obtain⟨b,off,cap,rfl,hcap,hbn,-⟩:=hx.some_ hpos;have hnews:∀j u,(l2.flatMap E.enc)[j]? =some u->W.cell? ((⟨b,off,none⟩:Addr).add j)=some u:=λj u hj=>by
   exact yih
  obtain⟨v',W',hr,hown,hg,-,hob⟩:=run_append_own_at (P:=P) W base st ty E.t i0 _ E.s i0.bytes hI.under hi0 hz0 hz1 rfl hz3 hE.pos _ l.length _ hv ⟨b,off,none⟩ l2.length cap (l2.flatMap E.enc) (a0v hE l2) hnews (a4g hE l2) oK (Nat.le_trans (Nat.mul_le_mul (show l.length+l2.length<=100000 by omega) hz2) jM) hb;have hform:∃g cap,v'= .slice (some ⟨g,0,none⟩) (l++l2).length cap:=by
   exact yif
  refine⟨v',W',hr,?_,hg,a1n hg hb (λk e=>(hv.lt k e).1),hform,hob⟩;exact yir
theorem El.joinO (hE:E.Ok)(hI:E.In P st){ops:Array Oper}{rest:List Oper}{o:Oper}{a:Act}{w:World}{Q:Exit->Act->World->Prop}(hgd:o.guard=none)(s x:Operand)
 (ho:o.op= .call { callee:= .builtin .append,args:= #[s,x],argTypes:= #[st,st] })
 (base:Nat) {v:Value} (hs:a.eval s=v) (l:List α) (hv:w.ownsRow base E.t E.s v l.length (l.flatMap E.enc)) (hsm:∃g c,v= .slice (some ⟨g,0,none⟩) l.length c) {xv:Value} (l2:List α) (hxv:a.eval x=xv) {n0:Nat} (hx:Lst E n0 w xv l2) (hf:Frm xv l2.length) (hl:l.length+l2.length<=100000) (hb:base<=w.heap.size)
 (h:∀v' w',w'.ownsRow base E.t E.s v' (l++l2).length ((l++l2).flatMap E.enc)->w.grownBy w' v.ownBlock->(∃g cap,v'= .slice (some ⟨g,0,none⟩) (l++l2).length cap)->(∀g,v'.ownBlock=some g->v.ownBlock=some g\/w.heap.size<=g)->wpList P ops Q rest (a.put o.dst v') w') :
 wpList P ops Q (o::rest) a w:=by
 obtain⟨v',w',hr,h2,h3,h4,h5,h6⟩:=El.append_joinO hE hI w base v xv l l2 o.type hv hsm hx hf hl hb;refine wpList_plain hgd λK hK=> ?_
 unfold Oper.wp execOp;simp only[ho,resolve,invoke,builtin,Sem.run_bind,Sem.run_pure,Result.andThen_ok,List.map_toArray,List.map_cons,List.map_nil,hs,hxv,hr];refine hK _ _ (h v' w' h2 h3 h5 λg e=> ?_);rcases h6 with h6|h6
 ·exact .inl (h6▸e)
 ·rw[h6]at e
  cases e;exact .inr (yR _)
theorem El.pushAt (hE:E.Ok)(hI:E.In P st){ops:Array Oper}{rest:List Oper}{o:Oper}{a:Act}{w:World}{l:List α}{Q:Exit->Act->World->Prop}(hgd:o.guard=none)(sO xO:Operand)(ho:o.op= .call { callee:= .builtin .append,args:= #[sO,xO],argTypes:= #[st,st] })
 {base:Nat} {v:Value} (hs:a.eval sO=v) (hrow:w.ownsRow base E.t E.s v l.length (l.flatMap E.enc)) (x:α) {H:Nat} (hx:a.eval xO= .slice (some ⟨H,0,none⟩) 1 1) (hH:Blk w H (E.enc x).toArray E.t) (hbase:base<=w.heap.size) (hl:l.length<=100000)
 (h:∀v' w',w'.ownsRow base E.t E.s v' (l++[x]).length ((l++[x]).flatMap E.enc)->w.grownBy w' v.ownBlock->(∀g,v'.ownBlock=some g->v.ownBlock=some g\/w.heap.size<=g)->wpList P ops Q rest (a.put o.dst v') w') :
 wpList P ops Q (o::rest) a w:=by
 obtain⟨i,z,hi,hz,hsz,hby,hzs⟩:=hI.info;have hlen:=hE.len x;refine wpList_append_lies _ hgd sO xO st ho base E.t i z E.s i.bytes hI.under hi hz hsz rfl hzs hE.pos v l.length _ hs hrow ⟨H,0,none⟩ 1 1 (E.enc x) hx (by rw[hlen,Nat.one_mul]) (World.news_of_block hH) (hE.one x) oM oK (Nat.le_trans (Nat.mul_le_mul (Nat.add_le_add_right hl 1) hby) jM) hbase _ rfl ?_;intro g cap w' hown hg hgo hlt;refine h _ w' (by simpa[List.flatMap_append]using hown) hg λg' e=> ?_
 simp only[Value.ownBlock,Option.some.injEq]at e;subst e;rcases hgo with h1|h1
 ·exact .inl h1
 ·exact .inr (by rw[h1];exact yR _)
end
theorem OP.store {S0 S:BS}{W0 W:World}{L:a9o}{T:SlL}{ov:Value}{l:List Pc}(h:OP S0 W0 S W L T ov l){e:TypeId}{b off n cap s:Nat}(he:ET e s)(hv:SL S W e (.slice (some ⟨b,off,none⟩) n cap) n)(ho:Own W0.heap.size (.slice (some ⟨b,off,none⟩) n cap))(k i:Nat)(ct:CT)(hct:(a2n e)[i]? =some ct)(u:Value)(hu:ct.ok S W u) :
 OP S0 W0 S (W.setCell ⟨b,off+k*s+i,none⟩ u) L T ov l/\W.frozen? ⟨b,off+k*s+i,none⟩=false:=by
 obtain⟨h1,h2⟩:=SL.store (X:=noB) h.b.tw he hv k i ct hct u hu;exact⟨h.evo h1 ((zR _ W).grown (a0x W b _ u) h.b.size (λq e=>by cases e;exact ho _ _ _ rfl)),h2⟩
theorem SL.face5 {S:BS}{W:World}{b off n cap:Nat}(hT:TW S W)(h:SL S W 140 (.slice (some ⟨b,off,none⟩) n cap) n){k:Nat}(hk:k<n):∃id cs ns wt ds,W.cell? ⟨b,off+k*5,none⟩=some (.int .i64 id)/\W.cell? ⟨b,off+k*5+1,none⟩=some (.string cs)/\W.cell? ⟨b,off+k*5+2,none⟩=some (.string ns)/\W.cell? ⟨b,off+k*5+3,none⟩=some (.int .i64 wt)/\W.cell? ⟨b,off+k*5+4,none⟩=some (.int .i64 ds)/\fits id/\cs.size<=30/\ns.size<=30/\fits wt/\fits ds:=by
 obtain⟨u0,c0,h0⟩:=h.cell hT a1l hk 0 .int rfl;obtain⟨u1,c1,h1⟩:=h.cell hT a1l hk 1 .str rfl;obtain⟨u2,c2,h2⟩:=h.cell hT a1l hk 2 .str rfl;obtain⟨u3,c3,h3⟩:=h.cell hT a1l hk 3 .int rfl;obtain⟨u4,c4,h4⟩:=h.cell hT a1l hk 4 .int rfl;obtain⟨id,rfl,f0⟩:=h0.i rfl;obtain⟨cs,rfl,f1⟩:=h1.s rfl;obtain⟨ns,rfl,f2⟩:=h2.s rfl;obtain⟨wt,rfl,f3⟩:=h3.i rfl;obtain⟨ds,rfl,f4⟩:=h4.i rfl;exact⟨id,cs,ns,wt,ds,c0,c1,c2,c3,c4,f0,f1,f2,f3,f4⟩
abbrev mZ :Array Value:= #[.slice none 0 0,.slice none 0 0,.slice none 0 0,.slice none 0 0]
abbrev d9h :Array Value:= #[.string ⟨#[]⟩,.string ⟨#[70,105,101,108,100]⟩,.string ⟨#[119,111,111,100]⟩,.string ⟨#[97,98,99,100,101,102,103,104,105,106,107,108,109]⟩,.string ⟨#[108,97,107,101]⟩]
theorem Own.sliceG {m n c:Nat}{a:Option Addr}(h:Own m (.slice a n c))(n':Nat):Own m (.slice a n' c):=λa' k' c' e=>by
 cases e;exact h a' n c rfl
theorem c6y {a:Nat}{m:Int}(h:a<=1000):fits (Int.tmod (a:Int) m):=by
 have h1:(Int.tmod (a:Int) m).natAbs<=a:=by
  rw[Int.natAbs_tmod];simpa using Nat.mod_le a m.natAbs
 exact⟨oM,oM⟩
def FG1 (BO k n p q nf fb fo fc1:Nat)(s:ByteArray)(i:Nat)(v:Value)(g:BS)(w:World):Prop :=
 match i with
 |0=>v= .pointer (some ⟨BO,1,none⟩)
 |1=>v= .slice (some ⟨fb,fo,none⟩) nf fc1
 |2=>v= .int .i64 (k:Nat)
 |3=>v= .pointer (some ⟨BO,1,none⟩)
 |4=>v= .slice (some ⟨fb,fo,none⟩) nf fc1
 |5=>v= .int .i64 (nf:Nat)
 |6=>v= .int .i64 (p:Nat)
 |7=>∃Z,v= .slice (some ⟨Z,0,none⟩) 5 5/\Blk w Z d9h 9/\¬g Z
 |8=>v= .int .i64 (n:Nat)
 |9=>v= .int .i64 (q:Nat)
 |10=>∃Z,v= .pointer (some ⟨Z,q,none⟩)/\Blk w Z d9h 9/\¬g Z
 |11=>v= .string s
 |_=>False
theorem FG1.kept {BO k n p q nf fb fo fc1:Nat}{s:ByteArray}{i:Nat}{v:Value}{g g':BS}{w w':World}(h:FG1 BO k n p q nf fb fo fc1 s i v g w)(hg:Ev noB g w g' w'):FG1 BO k n p q nf fb fo fc1 s i v g' w':=by
 unfold FG1 at *;split at h
 all_goals first|exact h|(obtain⟨Z,h1,h2,h3⟩:=h;exact⟨Z,h1,hg.blk h2 h3 (λh=>h),hg.not h2.lt h3⟩)|(exact h)
def FG9 (BO n k nw:Nat)(wa1:Option Addr)(wc1:Nat)(s:ByteArray)(i:Nat)(v:Value)(g:BS)(w:World):Prop :=
 match i with
 |0=>v= .pointer (some ⟨BO,2,none⟩)
 |1=>v= .slice wa1 nw wc1
 |2=>v= .int .i64 (n:Nat)
 |3=>∃x,v= .int .i64 x/\fits x
 |4=>v= .int .i64 (n:Nat)
 |5=>∃x,v= .int .i64 x/\fits x
 |6=>∃x,v= .agg #[.int .i64 x,.int .i64 20]/\fits x
 |7=>v= .agg #[.int .i64 55,.int .i64 65]
 |8=>SL g w 26 v 2
 |9=>v= .int .i64 (k:Nat)
 |10=>∃x,v= .int .i64 x/\fits x
 |11=>v= .int .i64 (k:Nat)
 |12=>v= .string s
 |13=>v= .int .i64 (n:Nat)
 |14=>∃x,v= .int .i64 x/\fits x
 |15=>v= .int .i64 (k:Nat)
 |16=>∃x,v= .int .i64 x/\fits x
 |17=>∃x,v= .int .i64 x/\fits x
 |18=>∃a lev wt ds sv,v= .agg #[.int .i64 a,sv,.int .i64 lev,.string ⟨#[112,97,116,104]⟩,.string s,.bool false,.int .i64 wt,.int .i64 ds]/\fits a/\fits lev/\fits wt/\fits ds/\SL g w 26 sv 2
 |19=>SL g w 149 v 1
 |_=>False
theorem FG9.kept {BO n k nw:Nat}{wa1:Option Addr}{wc1:Nat}{s:ByteArray}{i:Nat}{v:Value}{g g':BS}{w w':World}(h:FG9 BO n k nw wa1 wc1 s i v g w)(hg:Ev noB g w g' w'):FG9 BO n k nw wa1 wc1 s i v g' w':=by
 unfold FG9 at *;split at h
 all_goals first|exact h|(exact h)|(exact hg.sl h)|(obtain⟨a,lev,wt,ds,sv,h1,h2,h3,h4,h5,h6⟩:=h;exact⟨a,lev,wt,ds,sv,h1,h2,h3,h4,h5,hg.sl h6⟩)
abbrev d8y :Array Value:= #[.int .i64 0,.int .i64 1073741824,.int .i64 1073741825,.int .i64 70]
def FG14 (BO n k q:Nat)(pa1:Option Addr)(l:List Pc)(pc1:Nat)(s:ByteArray)(z:Int)(i:Nat)(v:Value)(g:BS)(w:World):Prop :=
 match i with
 |0=>v= .pointer (some ⟨BO,3,none⟩)
 |1=>v= .slice pa1 l.length pc1
 |2=>∃Z,v= .slice (some ⟨Z,0,none⟩) 4 4/\Blk w Z d8y 3/\¬g Z
 |3=>v= .int .i64 (n:Nat)
 |4=>v= .int .i64 (q:Nat)
 |5=>∃Z,v= .pointer (some ⟨Z,q,none⟩)/\Blk w Z d8y 3/\¬g Z
 |6=>v= .int .i64 z
 |7=>v= .int .i64 (n:Nat)
 |8=>∃x,v= .int .i64 x/\fits x
 |9=>∃x,v= .int .i64 x/\fits x
 |10=>v= .int .i64 (n:Nat)
 |11=>∃x,v= .int .i64 x/\fits x
 |12=>∃x,v= .int .i64 x/\fits x
 |13=>v= .int .i64 (k:Nat)
 |14=>∃x,v= .int .i64 x/\fits x
 |15=>∃x,v= .int .i64 x/\fits x
 |16=>∃x y,v= .agg #[.int .i64 x,.int .i64 y]/\fits x/\fits y
 |17=>v= .int .i64 (k:Nat)
 |18=>v= .string s
 |19=>v= .int .i64 (n:Nat)
 |20=>∃x,v= .int .i64 x/\fits x
 |21=>∃x,v= .int .i64 x/\fits x
 |22=>∃y:Pc,v=plV y/\PcOk y/\y.cls.size<=1000
 |23=>∃H y,v= .slice (some ⟨H,0,none⟩) 1 1/\Blk w H (plE.enc y).toArray 66/\¬g H/\PcOk y/\y.cls.size<=1000
 |_=>False
theorem FG14.kept {BO n k q:Nat}{pa1:Option Addr}{l:List Pc}{pc1:Nat}{s:ByteArray}{z:Int}{i:Nat}{v:Value}{g g':BS}{w w':World}(h:FG14 BO n k q pa1 l pc1 s z i v g w)(hg:Ev noB g w g' w'):FG14 BO n k q pa1 l pc1 s z i v g' w':=by
 unfold FG14 at *;split at h
 all_goals first|exact h|(obtain⟨Z,h1,h2,h3⟩:=h;exact⟨Z,h1,hg.blk h2 h3 (λh=>h),hg.not h2.lt h3⟩)|(exact h)|(obtain⟨Z,y,h1,h2,h3,h4⟩:=h;exact⟨Z,y,h1,hg.blk h2 h3 (λh=>h),hg.not h2.lt h3,h4⟩)
structure OO (w:World)(BO BR BQ BM:Nat)(q0 q1 q2:Int)(M0:Array Value)(S:BS)(W:World)(ev fv wv pv:Value)(ne nf nw:Nat)(l:List Pc):Prop where
 p:OP noB w S W [(BO,#[ev,fv,wv,pv],37),(BR,mZ,37),(BQ,qC q0 q1 q2,23),(BM,M0,37)] [(206,ev,ne),(140,fv,nf),(149,wv,nw)] pv l
 oe:Own w.heap.size ev
 of:Own w.heap.size fv
 ow:Own w.heap.size wv
def a0z (kk:Nat):Prop:=∀(U:BS) (w:World) (ev fv wv pv:Value) (ne nf nw:Nat) (l:List Pc) (hI:MapI U w ev fv wv pv ne nf nw l) (q0 q1 q2:Int) (fq0:fits q0) (fq1:fits q1) (fq2:fits q2),q0 % 17=(kk:Int) ->
    Calls prog 31 #[.agg #[ev,fv,wv,pv],.agg (qC q0 q1 q2)] w λe w'=>∃S' ev' fv' wv' pv' ne' nf' nw' l',e= .returned (.agg #[ev',fv',wv',pv'])/\MapR w.heap.size S' w' ev' fv' wv' pv' ne' nf' nw' l'/\OddR ne nf nw l ne' nf' nw' l'/\Ev noB noB w S' w'
theorem a1d {P:Prop}(h:P:=by
 unfold a0z;intro U w ev fv wv pv ne nf nw l hI q0 q1 q2 fq0 fq1 fq2 hcase;have hnf:=hI.nf;have hne:=hI.ne;have hnw:=hI.nw;have hnp:=hI.np;go_enter func31,ntmps31;go_upto_region 1 with fail;refine a0n (λW1 hW1=> ?_);have h1:=(((OY.init (TW.none w)).box #[ev,fv,wv,pv] 37).box (qC q0 q1 q2) 23).box #[.slice none 0 0,.slice none 0 0,.slice none 0 0,.slice none 0 0] 37;obtain⟨ea,ec,rfl,hec⟩:=hI.e.form;obtain⟨fa,fc,rfl,hfc⟩:=hI.f.form;obtain⟨wa,wc,rfl,hwc⟩:=hI.w.form;obtain⟨pa,pc,rfl,hpc⟩:=hI.p.form;obtain⟨BM,hBM⟩:=zE w.heap.size;simp only[World.size_alloc]at h1;rw[<-hW1,hBM]at h1;rw[hBM];obtain⟨BQ,hBQ⟩:=zE (BM+1);obtain⟨BR,hBR⟩:=zE (BM+1+1);rw[hBR,hBQ]at h1;rw[hBR,hBQ];have hI1:=hI.up h1.bel;obtain⟨m0,m1,m2,m3⟩:=a1v h1.b2;clear hW1;go_upto_region 2 with(first
  |(go_at_call 76;(with_reducible refine(c6c U W1 _ _ _ _ ne nf nw l hI1).mono ?_);rintro e WC⟨SC,ev1,fv1,wv1,pv1,rfl,hR,hev⟩;obtain⟨ea1,ec1,rfl,hec1⟩:=hR.e.form;obtain⟨fa1,fc1,rfl,hfc1⟩:=hR.f.form;obtain⟨wa1,wc1,rfl,hwc1⟩:=hR.w.form;obtain⟨pa1,pc1,rfl,hpc1⟩:=(a0h a4f hR.row oM).form))
 have hSn:∀b,SC b->w.heap.size<=b:=λb hb=>(hev.new b hb).elim (λh=>h.elim) (λh=>Nat.le_trans h1.size h)
 have hPC:OP noB w _ WC _ _ _ l:=⟨((((h1.evn hev).add (b2u hR.w)).add (b2u hR.f)).add (b2u hR.e)),d4g hR.row h1.size,λg hg hs=>hs.elim (λh=>h.elim) (λh=>hR.off g hg h),by simp⟩;refine a0n (λWD hWD=> ?_);have hPD:=hPC.box #[.slice ea1 ne ec1,.slice fa1 nf fc1,.slice wa1 nw wc1,.slice pa1 l.length pc1] 37 jM;obtain⟨BO,hBO⟩:=zE WC.heap.size;rw[<-hWD,hBO]at hPD;rw[hBO];have hO:OO w BO BR BQ BM q0 q1 q2 _ _ WD _ _ _ _ ne nf nw l:=⟨hPD,a6o hR.e hSn,a6o hR.f hSn,a6o hR.w hSn⟩;clear hPD hPC hR hev hSn hWD hBO h1 hI1 m0 m1 m2 m3;obtain⟨S9,hS9⟩:∃S:BS,(λb=>False\/SC b)=S:=⟨_,rfl⟩;rw[hS9]at hO;clear hS9 hI;obtain⟨n,hn,hn60⟩:∃n:Nat,q1 % 60=(n:Int)/\n<60:=⟨(q1 % 60).toNat,oM,oM⟩;obtain⟨k,hk,hk64⟩:∃n:Nat,q2 % 64=(n:Int)/\n<64:=⟨(q2 % 64).toNat,oM,oM⟩;obtain⟨r,hr,hr17⟩:∃n:Nat,q0 % 17=(n:Int)/\n<17:=⟨(q0 % 17).toNat,oM,oM⟩;have hrN:=Lib.hid (Int.ofNat_inj.1 (hr.symm.trans hcase));clear hcase;have hm1:=a5j q1 60 WD fq1 jM jM;have hm2:=a5j q2 64 WD fq2 jM jM;have hm3:=a5j q0 17 WD fq0 jM jM;rw[hn]at hm1;rw[hk]at hm2;rw[hr]at hm3;obtain⟨i0,i1,i2⟩:=zN3 hO.p.b.b2;go_upto_block 0 with(first
  |(go_at_call 77;(with_reducible refine hm1.mono ?_);rintro e W'⟨rfl,rfl⟩)
  |(go_at_call 77;(with_reducible refine hm2.mono ?_);rintro e W'⟨rfl,rfl⟩)
  |(go_at_call 77;(with_reducible refine hm3.mono ?_);rintro e W'⟨rfl,rfl⟩))
 clear hm1 hm2 hm3 hr hn hk hBM hBQ hBR;generalize hM0: #[Value.slice ea ne ec,.slice fa nf fc,.slice wa nw wc,.slice pa l.length pc]=M0 at hO;go_cut [] (λwx=>∃S ev' fv' wv' pv' ne' nf' nw' l',OO w BO BR BQ BM q0 q1 q2 M0 S wx ev' fv' wv' pv' ne' nf' nw' l'/\OddR ne nf nw l ne' nf' nw' l')
 case rest =>
  obtain⟨S',ev',fv',wv',pv',ne',nf',nw',l',hO',hR⟩:=hcut;obtain⟨e1,c1,rfl,-⟩:=hO'.p.b.s0.form;obtain⟨e2,c2,rfl,-⟩:=hO'.p.b.s1.form;obtain⟨e3,c3,rfl,-⟩:=hO'.p.b.s2.form;obtain⟨e4,c4,rfl,-⟩:=(a0h a4f hO'.p.row (by have:=hR.p;omega)).form;obtain⟨b0,b1,b2,b3⟩:=a1v hO'.p.b.b0;obtain⟨r0,r1,r2,r3⟩:=a1v hO'.p.b.b1;have z0:=hO'.p.b.b1.frozen 0;have z1:=hO'.p.b.b1.frozen 1;have z2:=hO'.p.b.b1.frozen 2;have z3:=hO'.p.b.b1.frozen 3;have hX:=((((hO'.p.tail.put (i:=0) (v:= .slice e1 ne' c1) rfl rfl).put (i:=1) (v:= .slice e2 nf' c2) rfl rfl).put (i:=2) (v:= .slice e3 nw' c3) rfl rfl).put (i:=3) (v:= .slice e4 l'.length c4) (c':= #[.slice e1 ne' c1,.slice e2 nf' c2,.slice e3 nw' c3,.slice e4 l'.length c4]) rfl rfl);go_wp2_with fail;exact bodyPost_ret (results_cell_row qM _ _ BR 37 _ (0,0) _ qM hX.b.b0 underlying37 qM zM) rfl ⟨S',_,_,_,_,ne',nf',nw',l',rfl,⟨hX.b.s0,hX.b.s1,hX.b.s2,hX.row,hX.off⟩,hR,hX.b.o.ev⟩
 case first =>
  obtain⟨b0,b1,b2,b3⟩:=a1v hO.p.b.b0;clear hM0;obtain rfl:=hrN.out;exact zCase):P:=h
theorem a0l {w w':World}(hB:Below w.heap.size w w'){b o:Nat}{v:Value}(h:w.cell? ⟨b,o,none⟩=some v):w'.cell? ⟨b,o,none⟩=some v:=by
 have hlt:=World.block_lt_of_cell? _ _ h;exact(Below.cell hB (p:=⟨b,o,none⟩) hlt).trans h
theorem Own.slice {m n c:Nat}{a:Option Addr}(h:Own m (.slice a n c))(n':Nat):Own m (.slice a n' c):=λa' k' c' e=>by
 cases e;exact h a' n c rfl
theorem OY.append_e {S0 S:BS}{W0 W:World}{L:a9o}{T:SlL}(h0:OY S0 W0 S W L T){o:Oper}{a:Act}{K:Act->World->Prop}{Q:Exit->Act->World->Prop}(sO xO:Operand)(t:TypeId)(ho:o.op= .call { callee:= .builtin .append,args:= #[sO,xO],argTypes:= #[t,t] })
 {e:TypeId} {s:Nat} (ht:prog.underlying t=some (.slice e)) (he:ET e s) {sv xv:Value} {n m:Nat} (hsv:a.eval sO=sv) (hv:SL S W e sv n) (hown:Own W0.heap.size sv) (hxv:a.eval xO=xv) (hx:SL S W e xv m) (hl:n+m<=1000000)
 (h:∀v' S' w',OY S0 W0 S' w' L ((e,v',n+m)::T)->Own W0.heap.size v'->Ev noB S W S' w'->K (a.put o.dst v') w'):Oper.wp prog o a W K Q:=by
 obtain⟨v',S',w',hr,h2,h3,h4,h5⟩:=a9r (X:=noB) h0.tw (ty:=o.type) ht he hv hx hl h0.size hown;exact yez
def FO7 (n0 B15 n k p eb eo e1c:Nat)(cx:Int)(i:Nat)(v:Value)(g:BS)(w:World):Prop :=
 match i with
 |0=>v= .slice (some ⟨eb,eo,none⟩) k e1c
 |1=>v= .int .i64 (n:Nat)
 |2=>∃x,v= .int .i64 x/\fits x
 |3=>v= .agg #[.int .i64 cx,.int .i64 90]
 |4=>v= .pointer (some ⟨B15,0,none⟩)
 |5=>v= .int .i64 cx
 |6=>∃x,v= .int .i64 x/\fits x
 |7=>∃x,v= .agg #[.int .i64 x,.int .i64 90]/\fits x
 |8=>v= .pointer (some ⟨B15,0,none⟩)
 |9=>v= .int .i64 cx
 |10=>v= .agg #[.int .i64 cx,.int .i64 95]
 |11=>v= .agg #[.int .i64 cx,.int .i64 90]
 |12=>SL g w 26 v 4
 |13=>∃Z,v= .slice (some ⟨Z,0,none⟩) 3 3/\Blk w Z #[.int .i64 0,.int .i64 22,.int .i64 28] 3/\¬g Z
 |14=>v= .int .i64 (n:Nat)
 |15=>v= .int .i64 (p:Nat)
 |16=>∃Z,v= .pointer (some ⟨Z,p,none⟩)/\Blk w Z #[.int .i64 0,.int .i64 22,.int .i64 28] 3/\¬g Z
 |17=>∃x,v= .int .i64 x/\fits x
 |18=>∃a c sv,v= .agg #[.int .i64 a,sv,.int .i64 21,.int .i64 c]/\fits a/\fits c/\SL g w 26 sv 4
 |19=>SL g w 206 v 1
 |20=>SL g w 206 v (k+1)/\Own n0 v
 |_=>False
theorem FO7.kept {n0 B15 n k p eb eo e1c:Nat}{cx:Int}{i:Nat}{v:Value}{g g':BS}{w w':World}(h:FO7 n0 B15 n k p eb eo e1c cx i v g w)(hg:Ev noB g w g' w'):FO7 n0 B15 n k p eb eo e1c cx i v g' w':=by
 unfold FO7 at *;split at h
 all_goals first|exact h|(exact h)|(exact hg.sl h)|(obtain⟨Z,h1,h2,h3⟩:=h;exact⟨Z,h1,hg.blk h2 h3 (λh=>h),hg.not h2.lt h3⟩)|(obtain⟨a,c,sv,h1,h2,h3,h4⟩:=h;exact⟨a,c,sv,h1,h2,h3,hg.sl h4⟩)|(exact⟨hg.sl h.1,h.2⟩)
theorem SL.blk_ {S:BS}{W:World}{e:TypeId}{b off n cap:Nat}(h:SL S W e (.slice (some ⟨b,off,none⟩) n cap) n):∃c,Blk W b c e:=by
 obtain⟨a',cap',h0,h1,⟨rfl,rfl⟩|⟨b',o,c,rfl,hb,hc,hl⟩⟩:=h
 ·simp at h0
 ·simp only[Value.slice.injEq,Option.some.injEq,Addr.mk.injEq,and_true,true_and]at h0
  obtain⟨⟨rfl,-⟩,-⟩:=h0;exact⟨c,hc⟩
structure O7 (w:World)(S:BS)(W:World)(e1 f1:Value)(ne nf:Nat)(L:a9o):Prop where
 b:OY noB w S W L [(206,e1,ne),(140,f1,nf)]
 oe:Own w.heap.size e1
 of:Own w.heap.size f1
def a1t (kk:Nat):Prop:=∀(U:BS) (w:World) (hT:TW U w) (ev fv:Value) (ne nf:Nat) (hve:SL U w 206 ev ne) (hvf:SL U w 140 fv nf) (hne:ne<=1000) (hnf:nf<=1000) (q0 q1 q2:Int) (fq0:fits q0) (fq1:fits q1) (fq2:fits q2),q0 % 13=(kk:Int) ->
    Calls prog 78 #[ev,fv,.agg #[.int .i64 q0,.int .i64 q1,.int .i64 q2]] w λe w'=>∃S' ev' fv' ne' nf',e= .returned (.tuple #[ev',fv'])/\SL S' w' 206 ev' ne'/\SL S' w' 140 fv' nf'/\ne'<=ne+1/\nf'<=nf+1/\Ev noB noB w S' w'
theorem a1x {P:Prop}(h:P:=by
 unfold a1t;intro U w hT ev fv ne nf hve hvf hne hnf q0 q1 q2 fq0 fq1 fq2 hcase;obtain⟨ea,ec,rfl,hec⟩:=hve.form;obtain⟨fa,fc,rfl,hfc⟩:=hvf.form;have h0:=(OY.init (TW.none w)).box #[.int .i64 q0,.int .i64 q1,.int .i64 q2] 23;go_enter func78,ntmps78;go_upto_region 2 with fail;refine a0n (λW1 hW1=> ?_);obtain⟨BQ,hBQ⟩:=zE w.heap.size;rw[<-hW1,hBQ]at h0;rw[hBQ];clear hW1 hBQ;go_wp2_with fail;go_loopw [8,9] (λe1 kk wr=>∃(k:Nat) (S:BS),k<=ne/\kk= .int .i64 (k:Nat)/\OY noB w S wr [(BQ,#[.int .i64 q0,.int .i64 q1,.int .i64 q2],23)] [(206,e1,k)]/\Own w.heap.size e1) (λ_ kk _=>ne-(intOf kk).toNat)
 case atStart=>exact⟨0,_,Nat.zero_le _,rfl,h0.add (SL.nil _ _ _),b6k _⟩
 case round =>
  clear h0;obtain⟨k,S,hk,rfl,hP,hown⟩:=hrel;have hTk:=hP.old hT;have hvk:=hP.oldS hT hve;by_cases hlt:k<ne
  ·as_aux_lemma =>
    have hltI:(k:Int)<(ne:Int):=oM;obtain⟨eb,eo,ec',heq,hec',-⟩:=hvk.some_ oM
    cases heq;obtain⟨id,ll,rr,lv,m,c0,c1,c2,c3,f0,f2,f3,hlv,hm⟩:=SL.edge hTk hvk hlt;obtain⟨la,lc,rfl,hlc⟩:=hlv.form;have hwk:IntKind.i64.wrap ((k:Int)+1)=((k+1:Nat):Int):=by rw[a0k oM oM];omega
    obtain⟨e10,e1c,rfl,he1c⟩:=hP.s0.form;go_upto_region 6 with fail;refine a0n (λWE hWE=> ?_);have hP2:=(hP.box #[.int .i64 id,.slice la m lc,.int .i64 ll,.int .i64 rr] 206);obtain⟨BE,hBE⟩:=zE wr.heap.size;have hUE:Below wr.heap.size wr WE:=by rw[hWE];exact(zR _ _).alloc (yR _) _
    rw[<-hWE,hBE]at hP2;rw[hBE];have hTE:=b1g hTk hUE (λb hb=>hTk.lt hb);have hlvE:=a4n hUE (λb hb=>hTk.lt hb) hlv;clear hP hWE hBE c0 c1 c2 c3 hTk hvk hlv hUE;have k1:WE.cell? ⟨BE,1,none⟩=some (.slice la m lc):=hP2.b0.cell 1;refine a0n (λWF hWF=> ?_);subst hWF;have hP3:=hP2.empty 26;have hTF:=hP3.old hT;have hlvF:=a4n ((zR _ WF).alloc (yR _) (.cells #[] 26)) (λb hb=>hTE.lt hb) hlvE;have hownF:Own w.heap.size (.slice (some ⟨WF.heap.size,0,none⟩) 0 0):=c4w hP2.size _;go_upto_region 7 with(first
     |(at_builtin;refine hP3.append_fl hTF qM _ _ 147 qM underlying147 a1s b4t qM hP3.s0 hownF qM hlvF oM ?_;intro v9 S9 WG hP4 _ _;obtain⟨a3,c3,rfl,hc3⟩:=hP4.s0.form;have q1:=hP4.b0.cell 1;have y1:=hP4.b0.frozen 1))
    refine a0n (λWM hWM=> ?_);simp only[Nat.zero_add]at hP4 hc3;have hP5:OY _ _ _ _ ((BE,#[.int .i64 id,.slice a3 m c3,.int .i64 ll,.int .i64 rr],_)::_) _:=hP4.put hWM rfl;clear hP2 hP3 hP4 hWM q1 y1 hTF hlvF hownF hTE hlvE k1;obtain⟨q0,q1,q2,q3⟩:=ed4 hP5.b0;obtain⟨HS,hHS⟩:=zE WM.heap.size;go_wp2_with (first
     |(at_builtin;refine hP5.append_n qM _ _ 32 qM underlying32 a1y qM hP5.s2 hown qM hHS (b2q f0 f2 f3 hP5.s0 hm) rfl oM ?_;intro e9 S9 W9 hP9 hown9))
    refine⟨⟨k+1,S9,hlt,rfl,⟨⟨hP9.tail.o.ev,hP9.tail.o.bx,hP9.tail.o.ne,λq hq=>hP9.o.sl q (by rw[List.mem_singleton.1 hq];exact List.mem_cons_self ..)⟩,hP9.bel⟩,hown9⟩,?_⟩;exact ygn
  ·have hge:((k:Int)<(ne:Int))=False:=by simp;omega
   obtain rfl:k=ne:=oM;clear hTk hvk;obtain⟨e10,e1c,rfl,he1c⟩:=hP.s0.form;have hPf:=hP.empty 140;have hTF:=hPf.old hT;have hlvF:=hPf.oldS hT hvf;have hownF:Own w.heap.size (.slice (some ⟨wr.heap.size,0,none⟩) 0 0):=c4w hP.size _;go_upto_region 9 with(first
    |(at_builtin;refine hPf.append_fl hTF qM _ _ 33 qM underlying33 a1l b9f qM hPf.s0 hownF qM hlvF oM ?_;intro v9 S9 W9 hP9 hownf _;obtain⟨f10,f1c,rfl,hf1c⟩:=hP9.s0.form))
   simp only[Nat.zero_add]at hP9 hf1c hownf;have hO:O7 w S9 W9 (.slice e10 k e1c) (.slice f10 nf f1c) k nf [(BQ,#[.int .i64 q0,.int .i64 q1,.int .i64 q2],23)]:=⟨⟨⟨hP9.o.ev,hP9.o.bx,hP9.o.ne,λq hq=>hP9.o.sl q (by
    rcases List.mem_cons.1 hq with rfl|hq
    ·exact List.mem_cons_of_mem _ (List.mem_cons_of_mem _ (List.mem_cons_self ..))
    ·rw[List.mem_singleton.1 hq];exact List.mem_cons_self ..)⟩,hP9.bel⟩,hown,hownf⟩
   clear hP9 hPf hTF hlvF hownF hP hown hownf;by_cases hk0:k=0
   ·subst hk0
    go_wp2_with fail;go_ret2;exact⟨_,_,_,_,_,rfl,hO.b.s0,hO.b.s1,oM,oM,hO.b.o.ev⟩
   have hk0b:((k:Int)==0)=false:=by simpa using hk0
   have hkp:0<k:=oM;obtain⟨i0,i1,i2⟩:=(⟨hO.b.b0.cell 0,hO.b.b0.cell 1,hO.b.b0.cell 2⟩:W9.cell? ⟨BQ,0,none⟩=some (.int .i64 q0)/\W9.cell? ⟨BQ,1,none⟩=some (.int .i64 q1)/\W9.cell? ⟨BQ,2,none⟩=some (.int .i64 q2));obtain⟨n,hn,hn40⟩:∃n:Nat,q1 % 40=(n:Int)/\n<40:=⟨(q1 % 40).toNat,oM,oM⟩;obtain⟨j,hj,hjk⟩:∃j:Nat,q2 % (k:Int)=(j:Int)/\j<k:=⟨(q2 % (k:Int)).toNat,by have:=Int.emod_nonneg q2 (show(k:Int)≠0 by omega);omega,by have:=Int.emod_nonneg q2 (show(k:Int)≠0 by omega);have:=Int.emod_lt_of_pos q2 (show(0:Int)<(k:Int) by omega);omega⟩;obtain⟨r,hr,hr13⟩:∃r:Nat,q0 % 13=(r:Int)/\r<13:=⟨(q0 % 13).toNat,oM,oM⟩;have hrN:=Lib.hid (Int.ofNat_inj.1 (hr.symm.trans hcase));clear hcase;have hjI:(j:Int)<(k:Int):=oM;obtain⟨eb,eo,ec',heq,hec',-⟩:=hO.b.s0.some_ hkp
   cases heq;have hm1:=a5j q1 40 W9 fq1 jM jM;have hm2:=a5j q2 (k:Int) W9 fq2 oM oM;have hm3:=a5j q0 13 W9 fq0 jM jM;rw[hn]at hm1;rw[hj]at hm2;rw[hr]at hm3;go_upto_block 2 with(first
    |(go_at_call 77;(with_reducible refine hm1.mono ?_);rintro e W'⟨rfl,rfl⟩)
    |(go_at_call 77;(with_reducible refine hm2.mono ?_);rintro e W'⟨rfl,rfl⟩)
    |(go_at_call 77;(with_reducible refine hm3.mono ?_);rintro e W'⟨rfl,rfl⟩))
   clear hm1 hm2 hm3 i0 i1 i2;go_cut [8,11] (λe f wx=>∃S ne' nf',O7 w S wx e f ne' nf' [(BQ,#[.int .i64 q0,.int .i64 q1,.int .i64 q2],23)]/\ne'<=k+1/\nf'<=nf+1)
   case rest =>
    obtain⟨S',ne',nf',hO',hn1,hn2⟩:=hcut;go_wp2_with fail;go_ret2;exact⟨_,_,_,_,_,rfl,hO'.b.s0,hO'.b.s1,hn1,hn2,hO'.b.o.ev⟩
   case first =>
    have hst:=λi ct h u hu=>hO.b.store a1y hO.b.s0 hO.oe j i ct h u hu
    have hI0:CT.int.ok S9 W9 (.int .i64 0):=CT.ok_int jM;obtain⟨id,ll,rr,lv,m,c0,c1,c2,c3,f0,f2,f3,hlv,hm⟩:=SL.edge hO.b.tw hO.b.s0 hjk;obtain⟨la,lc,rfl,hlc⟩:=hlv.form;have z0:W9.frozen? ⟨eb,eo+j*4,none⟩=false:=(hst 0 .int rfl _ hI0).2;have z2:=(hst 2 .int rfl _ hI0).2;have z3:=(hst 3 .int rfl _ hI0).2;obtain rfl:=hrN.out;exact zCase):P:=h
end
end Go.Proofs.YtfocdbjceedagaaGreatDoor
