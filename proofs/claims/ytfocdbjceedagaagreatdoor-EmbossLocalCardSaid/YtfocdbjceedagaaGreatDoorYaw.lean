/-
  Parts.
-/
import Derived.Test.YtfocdbjceedagaaGreatDoorYav
set_option linter.unusedVariables false
set_option linter.unusedSimpArgs false
set_option maxHeartbeats 2000000
set_option maxRecDepth 100000
namespace Go.Proofs.YtfocdbjceedagaaGreatDoor
open Tryz
section
open Go Go.RowKit Go.Shelf Go.Lib
attribute [local go_sem] Oper.semAt_some
attribute [local go_sem ↓] Go.wp_at_zero Go.wp_at_succ
theorem Calls.first30 {P:Program}{f:FuncId}{a:Array Value}{w:World}{A B:Prop}{e1 e2:Ending}{C:World→Prop}(hb:¬B)(h:Calls P f a w fun e w'=>(A∧e=e1∨B∧e=e2)∧C w'):Calls P f a w fun e w'=>e=e1∧C w' :=
 h.mono fun _ _ ⟨h1,h2⟩=>⟨h1.elim (fun x=>x.2) fun x=>absurd x.1 hb,h2⟩
theorem Calls.second30 {P:Program}{f:FuncId}{a:Array Value}{w:World}{A B:Prop}{e1 e2:Ending}{C:World→Prop}(ha:¬A)(h:Calls P f a w fun e w'=>(A∧e=e1∨B∧e=e2)∧C w'):Calls P f a w fun e w'=>e=e2∧C w' :=
 h.mono fun _ _ ⟨h1,h2⟩=>⟨h1.elim (fun x=>absurd x.1 ha) fun x=>x.2,h2⟩
theorem a3o {W W2:World}{n:Nat}{ev fv wv pv dv kv lv:Value}{s:Sh}(k1:Blk W n #[ev,fv,wv,pv] 37)(k2:Blk W (n+1) #[.int .i64 s.ax,.int .i64 s.ay,.int .i64 s.st,.int .i64 s.w,.int .i64 s.h,.int .i64 s.g] 28)(k3:Blk W (n+1+1) #[dv,kv,lv] 45)(k4:Blk W (n+1+1+1) #[.int .i64 0] 46)(hb:Below W.heap.size W W2) :
 (W2.cell? ⟨n,0,none⟩=some ev∧W2.cell? ⟨n,1,none⟩=some fv∧W2.cell? ⟨n,2,none⟩=some wv∧W2.cell? ⟨n,3,none⟩=some pv)∧(W2.cell? ⟨n+1,0,none⟩=some (.int .i64 s.ax)∧W2.cell? ⟨n+1,1,none⟩=some (.int .i64 s.ay)∧W2.cell? ⟨n+1,2,none⟩=some (.int .i64 s.st)∧W2.cell? ⟨n+1,3,none⟩=some (.int .i64 s.w)∧W2.cell? ⟨n+1,4,none⟩=some (.int .i64 s.h)∧W2.cell? ⟨n+1,5,none⟩=some (.int .i64 s.g))∧(W2.cell? ⟨n+1+1,0,none⟩=some dv∧W2.cell? ⟨n+1+1,1,none⟩=some kv∧W2.cell? ⟨n+1+1,2,none⟩=some lv)∧W2.cell? ⟨n+1+1+1,0,none⟩=some (.int .i64 0)∧W2.frozen? ⟨n+1+1+1,0,none⟩=false:=by
 have h1:=k1.below hb k1.lt;have h2:=k2.below hb k2.lt;have h3:=k3.below hb k3.lt;have h4:=k4.below hb k4.lt;exact⟨⟨h1.cell 0,h1.cell 1,h1.cell 2,h1.cell 3⟩,⟨h2.cell 0,h2.cell 1,h2.cell 2,h2.cell 3,h2.cell 4,h2.cell 5⟩,⟨h3.cell 0,h3.cell 1,h3.cell 2⟩,h4.cell 0,h4.frozen 0⟩
theorem a7b (s:Sh)(f0:a0i s.ax)(f1:a0i s.ay)(hs:a1w s=0)(ev fv wv pv v:Value)(l:List Pc)(ws:List Wy)(pl:Pn)(w:World)(hL:Lst plE w.heap.size w pv l)(hF:Frm pv l.length)(hl:l.length≤19)(hok:∀p∈l,PcOk p∧p.cls.size≤1000)
 (hW:Wys w.heap.size w wv ws) (hid:∀y∈ws,a0i y.id) (hlen:ws.length≤100) (hpw:∀y∈ws,y.line.length≤100) (hPow:∀W,Below w.heap.size w W→Pow W)
 (hP:PlanIn w v pl) (hsm:∀d∈pl.dots,Sm d) (hpl:pl.dots.length≤10000) (hfi:∀x∈pl.left,a0i x.i) (r:Int) (hr:b5y s.g (pfS s) a6t pl (wdF s ws) (a0t l)=r) :
 Calls prog 19 #[c6v ev fv wv pv,shV s,v] w fun e w'=>e= .returned (.int .i64 r)∧Below w.heap.size w w':=by
 obtain⟨dv,kv,lv,rfl,⟨hd,hdf⟩,⟨hk,hkf⟩,hlf,hff⟩:=hP.ex;have hBg:=fun pa pc X=>b6l s ev fv wv pa l.length pc X f0 f1
 unfold c0q at hBg;rw[if_pos hs,if_neg (by omega)] at hBg;have hDt:=fun X (hb:Below w.heap.size w X)=>c8m s f0 f1 hs ev fv wv pv dv kv lv l ws pl X (hL.up hb) hF hl hok (hW.up hb hb.size) hid hlen hpw (fun Y hY=>hPow Y (hb.trans (hY.mono hb.size))) (hd.up hb) (hlf.up hb) hff
 have hGp:=fun X (hb:Below w.heap.size w X)=>c8g s dv kv lv pl.dots X (hd.up hb) (by omega)
 rw[d0y hsm] at hGp;have hKy:=fun X (hb:Below w.heap.size w X)=>c8h ev fv wv pv dv kv lv l pl X (hL.up hb) hF hl hok (hk.up hb) (hlf.up hb) hff
 have hRs:=fun X (hb:Below w.heap.size w X)=>b9p s f0 f1 hs ev fv wv pv dv kv lv l pl X (hL.up hb) hF hl hok (fun Y hY=>hPow Y (hb.trans (hY.mono hb.size))) (hd.up hb) hdf hsm hpl (hlf.up hb) hff hfi
 unfold b5y at hr;obtain⟨pa,pc,rfl,-⟩:=hL.form;obtain⟨pn,hpn⟩:∃n,l.length=n:=⟨_,rfl⟩;rw[hpn] at hBg hDt hKy hRs ⊢;clear hL hF hok hW hid hlen hpw hPow hP hsm hpl hfi hd hdf hk hkf hlf hff hl hs f0 f1 hpn;have hmf:∀(fn:Fn) (first cap:Array Value) (w:World),(Instr.makeFunc fn first cap).run prog w= .ok (.func fn first cap) w:=fun _ _ _ _=>rfl
 go_enter_defers func19,ntmps19
 go_upto_region 1 with fail;have k1:=((Blk.new w #[ev,fv,wv,.slice pa pn pc] 37).alloc (.cells #[.int .i64 s.ax,.int .i64 s.ay,.int .i64 s.st,.int .i64 s.w,.int .i64 s.h,.int .i64 s.g] 28)).alloc (.cells #[dv,kv,lv] 45) |>.alloc (.cells #[.int .i64 0] 46)
 have k2:=(Blk.new (w.alloc (.cells #[ev,fv,wv,.slice pa pn pc] 37)) #[.int .i64 s.ax,.int .i64 s.ay,.int .i64 s.st,.int .i64 s.w,.int .i64 s.h,.int .i64 s.g] 28).alloc (.cells #[dv,kv,lv] 45) |>.alloc (.cells #[.int .i64 0] 46)
 have k3:=Blk.new ((w.alloc (.cells #[ev,fv,wv,.slice pa pn pc] 37)).alloc (.cells #[.int .i64 s.ax,.int .i64 s.ay,.int .i64 s.st,.int .i64 s.w,.int .i64 s.h,.int .i64 s.g] 28)) #[dv,kv,lv] 45 |>.alloc (.cells #[.int .i64 0] 46)
 have k4:=Blk.new (((w.alloc (.cells #[ev,fv,wv,.slice pa pn pc] 37)).alloc (.cells #[.int .i64 s.ax,.int .i64 s.ay,.int .i64 s.st,.int .i64 s.w,.int .i64 s.h,.int .i64 s.g] 28)).alloc (.cells #[dv,kv,lv] 45)) #[.int .i64 0] 46;have hw1:Below w.heap.size w ((((w.alloc (.cells #[ev,fv,wv,.slice pa pn pc] 37)).alloc (.cells #[.int .i64 s.ax,.int .i64 s.ay,.int .i64 s.st,.int .i64 s.w,.int .i64 s.h,.int .i64 s.g] 28)).alloc (.cells #[dv,kv,lv] 45)).alloc (.cells #[.int .i64 0] 46)):=((((zR _ _).alloc (yR _) _).alloc (by simp) _).alloc (by simp;omega) _).alloc (by simp;omega) _;obtain⟨W1,hW1⟩:∃W1,(((w.alloc (.cells #[ev,fv,wv,.slice pa pn pc] 37)).alloc (.cells #[.int .i64 s.ax,.int .i64 s.ay,.int .i64 s.st,.int .i64 s.w,.int .i64 s.h,.int .i64 s.g] 28)).alloc (.cells #[dv,kv,lv] 45)).alloc (.cells #[.int .i64 0] 46)=W1:=⟨_,rfl⟩;have hz1:W1.heap.size=w.heap.size+1+1+1+1:=by rw[←hW1];simp
 simp only[World.size_alloc] at k1 k2 k3 k4;rw[hW1] at k1 k2 k3 k4 hw1 ⊢;clear hW1;replace hz1:=Lib.hid hz1;obtain⟨⟨m0,m1,m2,m3⟩,⟨s0,s1,s2,s3,s4,s5⟩,⟨p0,p1,p2⟩,e0,e1⟩:=a3o k1 k2 k3 k4 (zR _ _);go_upto_region 5 with (first
  |(go_at_call 33;(with_reducible refine (hBg _ _ _).mono ?_);rintro e W2⟨rfl,hb2⟩
    have hbx0:=hb2;obtain⟨⟨m0,m1,m2,m3⟩,⟨s0,s1,s2,s3,s4,s5⟩,⟨p0,p1,p2⟩,x0,x1⟩:=a3o k1 k2 k3 k4 hbx0;have hbw0:=hw1.trans (hbx0.mono hw1.size))
  |fail)
 cases h1:cdF (pfS s) pl (wdF s ws) (a0t l)
 ·have hDt':=fun X hb=>Calls.second30 (by rw[h1];decide) (hDt X hb)
  rw[h1,if_neg (by decide)] at hr;subst hr;clear hDt hGp hKy hRs h1;go_wp2_with (first
   |(go_at_call 48;(with_reducible refine (hDt' _ hbw0).mono ?_);rintro e V0⟨rfl,hc0⟩
     have hbx1:=hbx0.trans (hc0.mono hbx0.size);obtain⟨⟨m0,m1,m2,m3⟩,⟨s0,s1,s2,s3,s4,s5⟩,⟨p0,p1,p2⟩,x0,x1⟩:=a3o k1 k2 k3 k4 hbx1;have hbw1:=hw1.trans (hbx1.mono hw1.size))
   |fail)
  have hbx:=hbx1;obtain⟨cc,hcc⟩:∃c:Int,c=42:=⟨_,rfl⟩;rw[←hcc];refine leaves_cons (f:=47) (args:= #[.pointer (some ⟨w.heap.size+1+1+1,0,none⟩)]) (by simp) (by simp[go_sem]) ?_;refine (b4l _ 0 _ _ x0 x1).mono ?_;rintro e u' w9⟨rfl,rfl,rfl⟩;have y0:=(k4.below hbx k4.lt).set 0 (.int .i64 cc);have hb9:=(hw1.trans (hbx.mono hw1.size)).setCell (p:=⟨w.heap.size+1+1+1,0,none⟩) (show w.heap.size≤w.heap.size+1+1+1 by omega) (.int .i64 cc);replace y0:=y0.cell 0;simp only[List.setIfInBounds_toArray,List.set_cons_zero] at y0;simp[Leaves,settle,results,results19,go_sem,y0];exact hb9
 ·have hDt':=fun X hb=>Calls.first30 (by rw[h1];decide) (hDt X hb)
  rw[h1,if_pos rfl] at hr;clear hDt h1;go_upto_region 6 with (first
   |(go_at_call 48;(with_reducible refine (hDt' _ hbw0).mono ?_);rintro e V0⟨rfl,hc0⟩
     have hbx1:=hbx0.trans (hc0.mono hbx0.size);obtain⟨⟨m0,m1,m2,m3⟩,⟨s0,s1,s2,s3,s4,s5⟩,⟨p0,p1,p2⟩,x0,x1⟩:=a3o k1 k2 k3 k4 hbx1;have hbw1:=hw1.trans (hbx1.mono hw1.size))
   |fail)
  cases h2:c7s s.g pl.dots
  ·have hGp':=fun X hb=>Calls.second30 (by rw[h2];decide) (hGp X hb)
   rw[h2,if_neg (by decide)] at hr;subst hr;clear hGp hKy hRs h2;go_wp2_with (first
    |(go_at_call 49;(with_reducible refine (hGp' _ hbw1).mono ?_);rintro e V1⟨rfl,hc1⟩
      have hbx2:=hbx1.trans (hc1.mono hbx1.size);obtain⟨⟨m0,m1,m2,m3⟩,⟨s0,s1,s2,s3,s4,s5⟩,⟨p0,p1,p2⟩,x0,x1⟩:=a3o k1 k2 k3 k4 hbx2;have hbw2:=hw1.trans (hbx2.mono hw1.size))
    |fail)
   have hbx:=hbx2;obtain⟨cc,hcc⟩:∃c:Int,c=41:=⟨_,rfl⟩;rw[←hcc];refine leaves_cons (f:=47) (args:= #[.pointer (some ⟨w.heap.size+1+1+1,0,none⟩)]) (by simp) (by simp[go_sem]) ?_;refine (b4l _ 0 _ _ x0 x1).mono ?_;rintro e u' w9⟨rfl,rfl,rfl⟩;have y0:=(k4.below hbx k4.lt).set 0 (.int .i64 cc);have hb9:=(hw1.trans (hbx.mono hw1.size)).setCell (p:=⟨w.heap.size+1+1+1,0,none⟩) (show w.heap.size≤w.heap.size+1+1+1 by omega) (.int .i64 cc);replace y0:=y0.cell 0;simp only[List.setIfInBounds_toArray,List.set_cons_zero] at y0;simp[Leaves,settle,results,results19,go_sem,y0];exact hb9
  ·have hGp':=fun X hb=>Calls.first30 (by rw[h2];decide) (hGp X hb)
   rw[h2,if_pos rfl] at hr;clear hGp h2;go_upto_region 7 with (first
    |(go_at_call 49;(with_reducible refine (hGp' _ hbw1).mono ?_);rintro e V1⟨rfl,hc1⟩
      have hbx2:=hbx1.trans (hc1.mono hbx1.size);obtain⟨⟨m0,m1,m2,m3⟩,⟨s0,s1,s2,s3,s4,s5⟩,⟨p0,p1,p2⟩,x0,x1⟩:=a3o k1 k2 k3 k4 hbx2;have hbw2:=hw1.trans (hbx2.mono hw1.size))
    |fail)
   by_cases h3:a5q a6t pl (a0t l)=pl.keys
   rotate_left 1
   ·have hKy':=fun X hb=>Calls.second30 h3 (hKy X hb)
    rw[if_neg h3] at hr;subst hr;clear hKy hRs h3;go_wp2_with (first
     |(go_at_call 50;(with_reducible refine (hKy' _ hbw2).mono ?_);rintro e V2⟨rfl,hc2⟩
       have hbx3:=hbx2.trans (hc2.mono hbx2.size);obtain⟨⟨m0,m1,m2,m3⟩,⟨s0,s1,s2,s3,s4,s5⟩,⟨p0,p1,p2⟩,x0,x1⟩:=a3o k1 k2 k3 k4 hbx3;have hbw3:=hw1.trans (hbx3.mono hw1.size))
     |fail)
    have hbx:=hbx3;obtain⟨cc,hcc⟩:∃c:Int,c=42:=⟨_,rfl⟩;rw[←hcc];refine leaves_cons (f:=47) (args:= #[.pointer (some ⟨w.heap.size+1+1+1,0,none⟩)]) (by simp) (by simp[go_sem]) ?_;refine (b4l _ 0 _ _ x0 x1).mono ?_;rintro e u' w9⟨rfl,rfl,rfl⟩;have y0:=(k4.below hbx k4.lt).set 0 (.int .i64 cc);have hb9:=(hw1.trans (hbx.mono hw1.size)).setCell (p:=⟨w.heap.size+1+1+1,0,none⟩) (show w.heap.size≤w.heap.size+1+1+1 by omega) (.int .i64 cc);replace y0:=y0.cell 0;simp only[List.setIfInBounds_toArray,List.set_cons_zero] at y0;simp[Leaves,settle,results,results19,go_sem,y0];exact hb9
   ·have hKy':=fun X hb=>Calls.first30 (fun h=>h h3) (hKy X hb)
    rw[if_pos h3] at hr;clear hKy h3;go_upto_region 8 with (first
     |(go_at_call 50;(with_reducible refine (hKy' _ hbw2).mono ?_);rintro e V2⟨rfl,hc2⟩
       have hbx3:=hbx2.trans (hc2.mono hbx2.size);obtain⟨⟨m0,m1,m2,m3⟩,⟨s0,s1,s2,s3,s4,s5⟩,⟨p0,p1,p2⟩,x0,x1⟩:=a3o k1 k2 k3 k4 hbx3;have hbw3:=hw1.trans (hbx3.mono hw1.size))
     |fail)
    cases h4:a3m s.g (pfS s) pl (a0t l)
    ·have hRs':=fun X hb=>Calls.second30 (by rw[h4];decide) (hRs X hb)
     rw[h4,if_neg (by decide)] at hr;subst hr;clear hRs h4;go_wp2_with (first
      |(go_at_call 51;(with_reducible refine (hRs' _ hbw3).mono ?_);rintro e V3⟨rfl,hc3⟩
        have hbx4:=hbx3.trans (hc3.mono hbx3.size);obtain⟨⟨m0,m1,m2,m3⟩,⟨s0,s1,s2,s3,s4,s5⟩,⟨p0,p1,p2⟩,x0,x1⟩:=a3o k1 k2 k3 k4 hbx4;have hbw4:=hw1.trans (hbx4.mono hw1.size))
      |fail)
     have hbx:=hbx4;obtain⟨cc,hcc⟩:∃c:Int,c=42:=⟨_,rfl⟩;rw[←hcc];refine leaves_cons (f:=47) (args:= #[.pointer (some ⟨w.heap.size+1+1+1,0,none⟩)]) (by simp) (by simp[go_sem]) ?_;refine (b4l _ 0 _ _ x0 x1).mono ?_;rintro e u' w9⟨rfl,rfl,rfl⟩;have y0:=(k4.below hbx k4.lt).set 0 (.int .i64 cc);have hb9:=(hw1.trans (hbx.mono hw1.size)).setCell (p:=⟨w.heap.size+1+1+1,0,none⟩) (show w.heap.size≤w.heap.size+1+1+1 by omega) (.int .i64 cc);replace y0:=y0.cell 0;simp only[List.setIfInBounds_toArray,List.set_cons_zero] at y0;simp[Leaves,settle,results,results19,go_sem,y0];exact hb9
    ·have hRs':=fun X hb=>Calls.first30 (by rw[h4];decide) (hRs X hb)
     rw[h4,if_pos rfl] at hr;clear hRs h4;go_upto_region 9 with (first
      |(go_at_call 51;(with_reducible refine (hRs' _ hbw3).mono ?_);rintro e V3⟨rfl,hc3⟩
        have hbx4:=hbx3.trans (hc3.mono hbx3.size);obtain⟨⟨m0,m1,m2,m3⟩,⟨s0,s1,s2,s3,s4,s5⟩,⟨p0,p1,p2⟩,x0,x1⟩:=a3o k1 k2 k3 k4 hbx4;have hbw4:=hw1.trans (hbx4.mono hw1.size))
      |fail)
     subst hr;go_wp2_with fail;have hbx:=hbx4;refine leaves_cons (f:=47) (args:= #[.pointer (some ⟨w.heap.size+1+1+1,0,none⟩)]) (by simp) (by simp[go_sem]) ?_;refine (d0z _ _).mono ?_;rintro e u' w9⟨rfl,rfl,rfl⟩;have y0:=(k4.below hbx k4.lt).set 0 (.int .i64 0);have hb9:=(hw1.trans (hbx.mono hw1.size)).setCell (p:=⟨w.heap.size+1+1+1,0,none⟩) (show w.heap.size≤w.heap.size+1+1+1 by omega) (.int .i64 0);replace y0:=y0.cell 0;simp only[List.setIfInBounds_toArray,List.set_cons_zero] at y0;simp[Leaves,settle,results,results19,go_sem,y0];exact hb9
end
section
open Go.RowKit Go.Shelf
theorem c8r (m k:Int)(d e:Dt):b0p m d e≤k↔m≤k∨apD d e≤k:=by
 unfold b0p;split <;> omega
theorem b7a (d:Dt)(k:Int):∀(b:List Dt)(m:Int),a3d d m b≤k↔m≤k∨∃e∈b,apD d e≤k
 |[],m=>by simp[a3d]
 |e::b,m=>by
  have ih:=b7a d k b (b0p m d e);have h:a3d d m (e::b)=a3d d (b0p m d e) b:=rfl;rw[h,ih,c8r];simp only[List.mem_cons,exists_eq_or_imp,or_assoc]
theorem b7b (b:List Dt)(k:Int):∀(a:List Dt)(m:Int),a.foldl (fun m d=>a3d d m b) m≤k↔m≤k∨∃d∈a,∃e∈b,apD d e≤k
 |[],m=>by simp
 |d::a,m=>by
  have ih:=b7b b k a (a3d d m b);simp only[List.foldl_cons];rw[ih,b7a];simp only[List.mem_cons,exists_eq_or_imp,or_assoc]
theorem c5s {a b:List Dt}{k:Int}:a1x a b≤k↔80≤k∨∃d∈a,∃e∈b,apD d e≤k:=b7b b k a 80
end
section
open Go Go.Sort
theorem c5t {l1 l2:List Pc}{p:Pc}(hn:a6v (l1++p::l2)):∃A B,a0t (l1++p::l2)=A++p::B∧a0t (l1++l2)=A++B:=by
 have hq:=a1g (l1++p::l2);have hq2:=a1g (l1++l2);obtain⟨A,B,hAB⟩:=List.append_of_mem (hq.mem_iff.2 (List.mem_append_right _ (List.mem_cons_self ..)));refine⟨A,B,hAB,?_⟩;rw[hAB] at hq;have h1:(A++B).Perm (l1++l2):=(List.perm_middle.symm.trans (hq.trans List.perm_middle)).cons_inv;have hs1:(A++p::B).Pairwise (fun a b=>ltOf a8d b a=false):=by
  rw[←hAB];exact a9d _
 have hs2:(A++B).Pairwise (fun a b=>ltOf a8d b a=false):=hs1.sublist (List.Sublist.append (List.Sublist.refl _) (List.sublist_cons_self _ _));refine List.Perm.eq_of_pairwise (fun x y hx hy h1' h2'=> ?_) (a9d _) hs2 (hq2.trans h1.symm);have e:x.id=y.id:=by
  rw[c5b] at h1' h2';omega
 have hsub:∀z,z∈l1++l2→z∈l1++p::l2:=fun z hz=>by
  rcases List.mem_append.1 hz with h|h
  ·exact List.mem_append_left _ h
  ·exact List.mem_append_right _ (List.mem_cons_of_mem _ h)
 obtain⟨i,hi,hxi⟩:=List.getElem_of_mem (hsub x (hq2.mem_iff.1 hx));obtain⟨j,hj,hyj⟩:=List.getElem_of_mem (hsub y (h1.mem_iff.1 hy));unfold a6v at hn;rw[List.nodup_iff_pairwise_ne,List.pairwise_iff_getElem] at hn;rcases Nat.lt_trichotomy i j with h|h|h
 ·have:=hn i j (by simpa using hi) (by simpa using hj) h
  rw[List.getElem_map,List.getElem_map,hxi,hyj] at this;exact absurd e this
 ·subst h
  rw[←hxi,←hyj]
 ·have:=hn j i (by simpa using hj) (by simpa using hi) h
  rw[List.getElem_map,List.getElem_map,hxi,hyj] at this;exact absurd e.symm this
variable {g:Int}{pf:Pc→Bool×List Dt}{kf:Pc→List Ke}
def a7w (l:List Dt)(k id:Int):List Dt:=l.filter fun d=>decide (d.k=k)&&decide (d.i=id)
def a4c (l:List Dt)(k:Int):List Dt:=l.filter fun d=>decide (d.k=k)
theorem a7c {α:Type}{f:α→Bool}{l:List α}(h:∀x∈l,f x=false):l.filter f=[]:=by
 rw[List.filter_eq_nil_iff];intro x hx;rw[h x hx];exact Bool.false_ne_true
theorem b3g {α:Type}{f:α→Bool}{l:List α}(h:∀x∈l,f x=true):l.filter f=l:=List.filter_eq_self.2 h
theorem a9z (wd:List Dt)(hw:∀d∈wd,d.k=2){qs rs:List Pc}{p:Pc}(hk:∀x∈qs++p::rs,∀d∈(pf x).2,d.k=3∧d.i=x.id)(hn:((qs++p::rs).map Pc.id).Nodup) :
 a7w (a1t g pf kf wd (qs++p::rs)).dots 3 p.id=if (b3u g pf (a1t g pf kf wd qs).dots p).isNone then (pf p).2 else []:=by
 obtain⟨D,K,L,h,hL,hD⟩:=b3v (g:=g) (pf:=pf) (kf:=kf) wd (qs++[p]) rs;rw[List.append_assoc,List.singleton_append] at h;rw[List.map_append,List.map_cons] at hn;obtain⟨-,hn2,hn3⟩:=List.nodup_append.1 hn;have hrs:=(List.nodup_cons.1 hn2).1;have d0:(a1t g pf kf wd qs).dots.filter (fun d=>decide (d.k=3)&&decide (d.i=p.id))=[]:=a7c fun d hd=>by
  rcases b5z wd qs d hd with h1|⟨q,hq,h1⟩
  ·rw[hw d h1];rfl
  ·obtain⟨-,h3⟩:=hk q (List.mem_append_left _ hq) d h1
   rw[Bool.and_eq_false_iff];exact .inr (decide_eq_false fun e=>hn3 q.id (List.mem_map_of_mem hq) p.id (by simp) (h3.symm.trans e))
 have d1:D.filter (fun d=>decide (d.k=3)&&decide (d.i=p.id))=[]:=a7c fun d hd=>by
  obtain⟨q,hq,h1⟩:=hD d hd;obtain⟨-,h3⟩:=hk q (List.mem_append_right _ (List.mem_cons_of_mem _ hq)) d h1;rw[Bool.and_eq_false_iff];refine .inr (decide_eq_false fun e=>hrs ?_);rw[←e,h3];exact List.mem_map_of_mem hq
 unfold a7w;rw[h,a3i]
 cases ho:b3u g pf (a1t g pf kf wd qs).dots p with
 |some x =>
  rw[a3q ho];simp only[List.filter_append,d0,d1];rfl
 |none =>
  rw[a2v ho];have d2:(pf p).2.filter (fun d=>decide (d.k=3)&&decide (d.i=p.id))=(pf p).2:=b3g fun d hd=>by
   obtain⟨h3,h4⟩:=hk p (by simp) d hd;rw[h3,h4];simp
  simp only[List.filter_append,d0,d1,d2];simp
theorem b7c (wd:List Dt)(hw:∀d∈wd,d.k=2){ps:List Pc}(hk:∀x∈ps,∀d∈(pf x).2,d.k=3∧d.i=x.id):a4c (a1t g pf kf wd ps).dots 2=wd:=by
 obtain⟨D,K,L,h,hL,hD⟩:=b3v (g:=g) (pf:=pf) (kf:=kf) wd [] ps;rw[List.nil_append] at h;have e:(a1t g pf kf wd []).dots=wd:=rfl;have d1:D.filter (fun d=>decide (d.k=2))=[]:=a7c fun d hd=>by
  obtain⟨q,hq,h1⟩:=hD d hd;obtain⟨h3,-⟩:=hk q hq d h1;rw[h3];rfl
 unfold a4c;rw[h,e];simp only[List.filter_append,d1,List.append_nil];exact b3g fun d hd=>by rw[hw d hd];rfl
def b1s (g:Int)(pf:Pc→Bool×List Dt)(C:List Dt)(x:Pc):List Dt:=if (pf x).1&&decide (a1x C (pf x).2<g) then C++(pf x).2 else C
def chF (g:Int)(pf:Pc→Bool×List Dt)(C:List Dt)(xs:List Pc):List Dt:=xs.foldl (b1s g pf) C
theorem c1b (C:List Dt)(xs:List Pc)(x:Pc):chF g pf C (xs++[x])=b1s g pf (chF g pf C xs) x:=by
 unfold chF;rw[List.foldl_append];rfl
theorem d1a (hg:g≤4){a b:Dt}(h:b8p g a b=true):apD a b<g:=by
 unfold b8p at h;simp only[Bool.and_eq_true,decide_eq_true_eq] at h;obtain⟨-,h1,h2⟩:=h;unfold apD apF;repeat' split
 all_goals omega
theorem a7x {D E C l:List Dt}(hg:g≤4)(h1:∀d∈D,d∈E∨d∈C)(hc:¬a1x C l<g)(hs:(a3e g D l).isSome=true):(a3e g E l).isSome=true:=by
 unfold a3e at *;rw[List.find?_isSome] at *;obtain⟨d,hd,hd2⟩:=hs;rcases h1 d hd with h2|h2
 ·exact⟨d,h2,hd2⟩
 ·obtain⟨b,hb,hb2⟩:=List.any_eq_true.1 hd2
  have h3:=d1a hg hb2;exact absurd (c5s.2 (.inr ⟨d,h2,b,hb,Int.le_sub_one_of_lt h3⟩)) (by omega)
theorem c5u (hg:g≤4)(wd:List Dt)(A:List Pc)(p:Pc)(B:List Pc)(hon:(pf p).1=false→(pf p).2=[]) :
 (∀d∈(a1t g pf kf wd (A++p::B)).dots,d∈(a1t g pf kf wd (A++B)).dots∨d∈chF g pf (pf p).2 B)∧(∀d∈(a1t g pf kf wd (A++B)).dots,d∈(a1t g pf kf wd (A++p::B)).dots∨d∈chF g pf (pf p).2 B):=by
 refine a4h (Q:=fun B=>(∀d∈(a1t g pf kf wd (A++p::B)).dots,d∈(a1t g pf kf wd (A++B)).dots∨d∈chF g pf (pf p).2 B)∧(∀d∈(a1t g pf kf wd (A++B)).dots,d∈(a1t g pf kf wd (A++p::B)).dots∨d∈chF g pf (pf p).2 B)) ?_ ?_ B
 ·show (∀d∈(a1t g pf kf wd (A++[p])).dots,d∈(a1t g pf kf wd (A++[])).dots∨d∈(pf p).2)∧(∀d∈(a1t g pf kf wd (A++[])).dots,d∈(a1t g pf kf wd (A++[p])).dots∨d∈(pf p).2)
  rw[a3i,List.append_nil]
  cases ho:b3u g pf (a1t g pf kf wd A).dots p with
  |some x=>rw[a3q ho];exact⟨fun d hd=> .inl hd,fun d hd=> .inl hd⟩
  |none =>
   rw[a2v ho];exact⟨fun d hd=>(List.mem_append.1 hd).imp id id,fun d hd=> .inl (List.mem_append_left _ hd)⟩
 ·intro B x ih
  obtain⟨i1,i2⟩:=ih;rw[show A++p::(B++[x])=(A++p::B)++[x] by simp,←List.append_assoc,a3i,a3i,c1b];have hgrow:∀d,d∈chF g pf (pf p).2 B→d∈b1s g pf (chF g pf (pf p).2 B) x:=fun d hd=>by
   unfold b1s;split
   ·exact List.mem_append_left _ hd
   ·exact hd
  have hmono:∀(pl:Pn) d,d∈pl.dots→d∈(a2z g pf kf pl x).dots:=fun pl d hd=>by
   cases ho:b3u g pf pl.dots x with
   |some y=>rw[a3q ho];exact hd
   |none=>rw[a2v ho];exact List.mem_append_left _ hd
  have hback:∀(pl:Pn) d,d∈(a2z g pf kf pl x).dots→d∈pl.dots∨(d∈(pf x).2∧b3u g pf pl.dots x=none):=fun pl d hd=>by
   cases ho:b3u g pf pl.dots x with
   |some y=>rw[a3q ho] at hd;exact .inl hd
   |none=>rw[a2v ho] at hd;exact (List.mem_append.1 hd).imp id (fun h=>⟨h,rfl⟩)
  by_cases hch:((pf x).1&&decide (a1x (chF g pf (pf p).2 B) (pf x).2<g))=true
  ·have hin:∀d,d∈(pf x).2→d∈b1s g pf (chF g pf (pf p).2 B) x:=fun d hd=>by
    unfold b1s;rw[if_pos hch];exact List.mem_append_right _ hd
   refine⟨fun d hd=> ?_,fun d hd=> ?_⟩
   ·rcases hback _ d hd with h|⟨h,-⟩
    ·exact (i1 d h).imp (hmono _ d) (hgrow d)
    ·exact .inr (hin d h)
   ·rcases hback _ d hd with h|⟨h,-⟩
    ·exact (i2 d h).imp (hmono _ d) (hgrow d)
    ·exact .inr (hin d h)
  ·have hsame:b3u g pf (a1t g pf kf wd (A++p::B)).dots x=none↔b3u g pf (a1t g pf kf wd (A++B)).dots x=none:=by
    unfold b3u
    cases hx:(pf x).1
    ·simp
    ·rw[hx] at hch
     simp only[Bool.true_and,decide_eq_true_eq] at hch;simp only[if_true,Option.map_eq_none_iff];constructor
     ·intro h
      cases hc:a3e g (a1t g pf kf wd (A++B)).dots (pf x).2 with
      |none=>rfl
      |some y=>have:=a7x hg i2 hch (by rw[hc];rfl);rw[h] at this;cases this
     ·intro h
      cases hc:a3e g (a1t g pf kf wd (A++p::B)).dots (pf x).2 with
      |none=>rfl
      |some y=>have:=a7x hg i1 hch (by rw[hc];rfl);rw[h] at this;cases this
   refine⟨fun d hd=> ?_,fun d hd=> ?_⟩
   ·rcases hback _ d hd with h|⟨h,ho⟩
    ·exact (i1 d h).imp (hmono _ d) (hgrow d)
    ·rw[a2v (hsame.1 ho)]
     exact .inl (List.mem_append_right _ h)
   ·rcases hback _ d hd with h|⟨h,ho⟩
    ·exact (i2 d h).imp (hmono _ d) (hgrow d)
    ·rw[a2v (hsame.2 ho)]
     exact .inl (List.mem_append_right _ h)
theorem c2s (hg:g≤4)(wd:List Dt)(A:List Pc)(p:Pc)(B:List Pc)(x:Pc)(hon:(pf p).1=false→(pf p).2=[])(hch:((pf x).1&&decide (a1x (chF g pf (pf p).2 B) (pf x).2<g))=false) :
 (b3u g pf (a1t g pf kf wd (A++p::B)).dots x).isNone=(b3u g pf (a1t g pf kf wd (A++B)).dots x).isNone:=by
 obtain⟨i1,i2⟩:=c5u (kf:=kf) hg wd A p B hon;unfold b3u
 cases hx:(pf x).1
 ·simp
 ·rw[hx] at hch
  simp only[Bool.true_and,decide_eq_false_iff_not] at hch;simp only[if_true,Option.isNone_map]
  cases h1:a3e g (a1t g pf kf wd (A++p::B)).dots (pf x).2 with
  |some y =>
   have:=a7x hg i1 hch (by rw[h1];rfl)
   cases h2:a3e g (a1t g pf kf wd (A++B)).dots (pf x).2 with
   |some z=>rfl
   |none=>rw[h2] at this;cases this
  |none =>
   cases h2:a3e g (a1t g pf kf wd (A++B)).dots (pf x).2 with
   |none=>rfl
   |some z =>
    have:=a7x hg i2 hch (by rw[h2];rfl);rw[h1] at this
    cases this
theorem b7d (wd:List Dt)(hw:∀d∈wd,d.k=2){A B:List Pc}{p:Pc}(hk:∀x∈A++p::B,∀d∈(pf x).2,d.k=3∧d.i=x.id)(hn:((A++p::B).map Pc.id).Nodup){x:Pc}(hx:x∈A) :
 a7w (a1t g pf kf wd (A++p::B)).dots 3 x.id=a7w (a1t g pf kf wd (A++B)).dots 3 x.id:=by
 obtain⟨qs,rs,rfl⟩:=List.append_of_mem hx;have hn2:((qs++x::(rs++B)).map Pc.id).Nodup:=by
  refine List.Sublist.nodup (List.Sublist.map _ ?_) hn;simp
 rw[List.append_assoc,List.cons_append] at hk hn ⊢;rw[List.append_assoc,List.cons_append,a9z wd hw hk hn,a9z wd hw (fun y hy=>hk y (by simp only[List.mem_append,List.mem_cons] at hy ⊢;rcases hy with h|h|h|h <;> simp[h])) hn2]
theorem b7e (hg:g≤4)(wd:List Dt)(hw:∀d∈wd,d.k=2){A B1 B2:List Pc}{p x:Pc}(hk:∀y∈A++p::(B1++x::B2),∀d∈(pf y).2,d.k=3∧d.i=y.id)(hn:((A++p::(B1++x::B2)).map Pc.id).Nodup)(hon:(pf p).1=false→(pf p).2=[])
 (hch:((pf x).1&&decide (a1x (chF g pf (pf p).2 B1) (pf x).2<g))=false) :
 a7w (a1t g pf kf wd (A++p::(B1++x::B2))).dots 3 x.id=a7w (a1t g pf kf wd (A++(B1++x::B2))).dots 3 x.id:=by
 have hn2:(((A++B1)++x::B2).map Pc.id).Nodup:=by
  refine List.Sublist.nodup (List.Sublist.map _ ?_) hn;simp
 rw[show A++p::(B1++x::B2)=(A++p::B1)++x::B2 by simp] at hk hn ⊢;rw[←List.append_assoc,a9z wd hw hk hn,a9z wd hw (fun y hy=>hk y (by simp only[List.mem_append,List.mem_cons] at hy ⊢;rcases hy with (h|h)|h|h <;> simp[h])) hn2,c2s hg wd A p B1 x hon hch]
end
section
open Go Go.RowKit Go.Shelf Go.Lib
attribute [local go_sem] Oper.semAt_some
attribute [local go_sem ↓] Go.wp_at_zero Go.wp_at_succ
theorem b3h {W:World}{base b2:Nat}{e:TypeId}{s:Nat}{v:Value}{n:Nat}{xs:List Value}(h:W.ownsRow base e s v n xs)(hb:b2≤base):W.ownsRow b2 e s v n xs :=
 ⟨h.1,h.2.imp id fun ⟨g,cap,cur,e1,h1,h2⟩=>⟨g,cap,cur,e1,Nat.le_trans hb h1,h2⟩⟩
theorem c5v (l:List Dt)(d:Dt)(k i:Int):a7w (l++[d]) k i=a7w l k i++if decide (d.k=k)&&decide (d.i=i) then [d] else []:=by
 unfold a7w;rw[List.filter_append,List.filter_cons,List.filter_nil]
theorem c5w (dv kv lv:Value)(l:List Dt)(k i:Int)(w:World)(hd:Lst dtE w.heap.size w dv l)(hl:l.length≤100000) :
 Calls prog 27 #[.agg #[dv,kv,lv],.int .i64 k,.int .i64 i] w fun e w'=>∃v,e= .returned v∧w'.ownsRow w.heap.size 54 4 v (a7w l k i).length ((a7w l k i).flatMap dtE.enc)∧Below w.heap.size w w':=by
 obtain⟨da,dc,rfl,-⟩:=hd.form;go_enter func27,ntmps27;go_upto_region 1 with fail;have kP:=Blk.new w #[.slice da l.length dc,kv,lv] 45;have hb:Below w.heap.size w (w.alloc (.cells #[.slice da l.length dc,kv,lv] 45)):=(by repeat' (first|with_reducible (first|exact zR _ _|exact yR _|assumption|refine zG ?_ ?_ _|refine zA ?_ ?_ _|refine zS ?_ ?_ _|refine zD ?_|refine yA ?_|refine yG ?_|refine yS ?_|refine yD ?_)|omega|(dsimp only;omega)));obtain⟨W,hW⟩:∃W,w.alloc (.cells #[.slice da l.length dc,kv,lv] 45)=W:=⟨_,rfl⟩;rw[hW] at kP hb ⊢;clear hW;have p0:W.cell? ⟨w.heap.size,0,none⟩=some (.slice da l.length dc):=kP.cell 0;have hdW:=hd.up hb;have hzW:=hb.size;go_wp2_with fail;clear p0 kP hd;go_loopw [7,13] (fun vv kk wr=>∃j:Nat,j≤l.length∧kk= .int .i64 (j:Nat)∧wr.ownsRow W.heap.size 54 4 vv (a7w (l.take j) k i).length ((a7w (l.take j) k i).flatMap dtE.enc)∧Below W.heap.size W wr) (fun vv kk _=>l.length-(intOf kk).toNat)
 case atStart=>exact⟨0,Nat.zero_le _,rfl,⟨by simp[a7w],.inl ⟨rfl,by simp[a7w]⟩⟩,zR _ _⟩
 case round =>
  obtain⟨j,hjl,rfl,hrow,hbr⟩:=hrel;by_cases hlt:j<l.length
  ·have hltI:(j:Int)<(l.length:Int):=by omega
   have hLr:=hdW.up hbr;obtain⟨b,off,cap,hv,-,hbl,hc⟩:=hLr.some_ (by omega);simp only[Value.slice.injEq,true_and] at hv;obtain⟨rfl,rfl⟩:=hv;obtain⟨d,hp⟩:∃d,l[j]=d:=⟨_,rfl⟩;have hck:=hc j hlt;rw[hp] at hck;have hKn:a7w (l.take (j+1)) k i=a7w (l.take j) k i++if decide (d.k=k)&&decide (d.i=i) then [d] else []:=by rw[←List.take_append_getElem hlt,hp];exact c5v _ _ _ _
   have hKl:(a7w (l.take j) k i).length≤l.length:=Nat.le_trans (List.length_filter_le _ _) (by rw[List.length_take];omega);obtain⟨dx,dy,dk,di⟩:=d;obtain⟨d0,d1,d2,d3⟩:wr.cell? ⟨b,off+j*4,none⟩=some (.int .i64 dx)∧wr.cell? ⟨b,off+j*4+1,none⟩=some (.int .i64 dy)∧wr.cell? ⟨b,off+j*4+2,none⟩=some (.int .i64 dk)∧wr.cell? ⟨b,off+j*4+3,none⟩=some (.int .i64 di):=⟨hck 0 (show 0<4 by decide),hck 1 (show 1<4 by decide),hck 2 (show 2<4 by decide),hck 3 (show 3<4 by decide)⟩;obtain⟨K,hK⟩:∃K,a7w (l.take j) k i=K:=⟨_,rfl⟩;rw[hK] at hrow hKn hKl;simp only at hKn;obtain⟨va,vc,rfl,-⟩:=(a0b a6s hrow (by omega)).form;have hzr:=hbr.size;clear hck hc hLr hK hp;go_upto_region 5 with fail;have kX:=Blk.new wr #[.int .i64 dx,.int .i64 dy,.int .i64 dk,.int .i64 di] 54;have hbP:Below wr.heap.size wr (wr.alloc (.cells #[.int .i64 dx,.int .i64 dy,.int .i64 dk,.int .i64 di] 54)):=(zR _ _).alloc (yR _) _;obtain⟨W9,hW9⟩:∃X,wr.alloc (.cells #[.int .i64 dx,.int .i64 dy,.int .i64 dk,.int .i64 di] 54)=X:=⟨_,rfl⟩;rw[hW9] at kX hbP ⊢;obtain⟨BP,hBP⟩:∃X,wr.heap.size=X:=⟨_,rfl⟩;have hz9:=hbP.size;have hrow9:=a1k hrow hbP;have hb19:Below W.heap.size W W9:=hbr.trans (hbP.mono hzr);rw[hBP] at kX ⊢;obtain⟨x0,x1,x2,x3⟩:W9.cell? ⟨BP,0,none⟩=some (.int .i64 dx)∧W9.cell? ⟨BP,1,none⟩=some (.int .i64 dy)∧W9.cell? ⟨BP,2,none⟩=some (.int .i64 dk)∧W9.cell? ⟨BP,3,none⟩=some (.int .i64 di):=⟨kX.cell 0,kX.cell 1,kX.cell 2,kX.cell 3⟩;clear hW9 d0 d1 d2 d3;by_cases h1:dk=k
   ·by_cases h2:di=i
    ·subst h1 h2
     rw[if_pos (by simp)] at hKn;go_wp2_with (first
      |(at_builtin;refine El.push a6s d1w (by rfl) _ _ (by rfl) (by rfl) hrow9 ⟨dx,dy,dk,di⟩ (by rfl) rfl (by omega) (by omega) ?_;intro v11 w11 hr11 hf11 hg11 hb11
        obtain⟨a11,c11,rfl⟩:=hf11)
      |fail)
     go_roundw
     case rel=>exact⟨j+1,by omega,by go_num,by rw[hKn];simpa using hr11,hb19.trans hb11⟩
     case measure=>simp[intOf];omega
    ·rw[if_neg (by simp[h2])] at hKn
     have hb1:(dk==k)=true:=by simpa using h1
     have hb2:(di==i)=false:=by simpa using h2
     rw[List.append_nil] at hKn;go_wp2_with fail;go_roundw
     case rel=>exact⟨j+1,by omega,by go_num,by rw[hKn];exact hrow9,hb19⟩
     case measure=>simp[intOf];omega
   ·rw[if_neg (by simp[h1])] at hKn
    have hb1:(dk==k)=false:=by simpa using h1
    rw[List.append_nil] at hKn;go_wp2_with fail;go_roundw
    case rel=>exact⟨j+1,by omega,by go_num,by rw[hKn];exact hrow9,hb19⟩
    case measure=>simp[intOf];omega
  ·obtain rfl:j=l.length:=by omega
   have hge:¬(l.length:Int)<(l.length:Int):=by omega
   rw[List.take_length] at hrow;go_wp2_with fail;go_ret;exact⟨_,rfl,b3h hrow hzW,hb.trans (hbr.mono hzW)⟩
theorem c2t (l:List Dt)(d:Dt)(k:Int):a4c (l++[d]) k=a4c l k++if decide (d.k=k) then [d] else []:=by
 unfold a4c;rw[List.filter_append,List.filter_cons,List.filter_nil]
theorem c5x (dv kv lv:Value)(l:List Dt)(k:Int)(w:World)(hd:Lst dtE w.heap.size w dv l)(hl:l.length≤100000) :
 Calls prog 28 #[.agg #[dv,kv,lv],.int .i64 k] w fun e w'=>∃v,e= .returned v∧w'.ownsRow w.heap.size 54 4 v (a4c l k).length ((a4c l k).flatMap dtE.enc)∧Below w.heap.size w w':=by
 obtain⟨da,dc,rfl,-⟩:=hd.form;go_enter func28,ntmps28;go_upto_region 1 with fail;have kP:=Blk.new w #[.slice da l.length dc,kv,lv] 45;have hb:Below w.heap.size w (w.alloc (.cells #[.slice da l.length dc,kv,lv] 45)):=(by repeat' (first|with_reducible (first|exact zR _ _|exact yR _|assumption|refine zG ?_ ?_ _|refine zA ?_ ?_ _|refine zS ?_ ?_ _|refine zD ?_|refine yA ?_|refine yG ?_|refine yS ?_|refine yD ?_)|omega|(dsimp only;omega)));obtain⟨W,hW⟩:∃W,w.alloc (.cells #[.slice da l.length dc,kv,lv] 45)=W:=⟨_,rfl⟩;rw[hW] at kP hb ⊢;clear hW;have p0:W.cell? ⟨w.heap.size,0,none⟩=some (.slice da l.length dc):=kP.cell 0;have hdW:=hd.up hb;have hzW:=hb.size;go_wp2_with fail;clear p0 kP hd;go_loopw [5,11] (fun vv kk wr=>∃j:Nat,j≤l.length∧kk= .int .i64 (j:Nat)∧wr.ownsRow W.heap.size 54 4 vv (a4c (l.take j) k).length ((a4c (l.take j) k).flatMap dtE.enc)∧Below W.heap.size W wr) (fun vv kk _=>l.length-(intOf kk).toNat)
 case atStart=>exact⟨0,Nat.zero_le _,rfl,⟨by simp[a4c],.inl ⟨rfl,by simp[a4c]⟩⟩,zR _ _⟩
 case round =>
  obtain⟨j,hjl,rfl,hrow,hbr⟩:=hrel;by_cases hlt:j<l.length
  ·have hltI:(j:Int)<(l.length:Int):=by omega
   have hLr:=hdW.up hbr;obtain⟨b,off,cap,hv,-,hbl,hc⟩:=hLr.some_ (by omega);simp only[Value.slice.injEq,true_and] at hv;obtain⟨rfl,rfl⟩:=hv;obtain⟨d,hp⟩:∃d,l[j]=d:=⟨_,rfl⟩;have hck:=hc j hlt;rw[hp] at hck;have hKn:a4c (l.take (j+1)) k=a4c (l.take j) k++if decide (d.k=k) then [d] else []:=by rw[←List.take_append_getElem hlt,hp];exact c2t _ _ _
   have hKl:(a4c (l.take j) k).length≤l.length:=Nat.le_trans (List.length_filter_le _ _) (by rw[List.length_take];omega);obtain⟨dx,dy,dk,di⟩:=d;obtain⟨d0,d1,d2,d3⟩:wr.cell? ⟨b,off+j*4,none⟩=some (.int .i64 dx)∧wr.cell? ⟨b,off+j*4+1,none⟩=some (.int .i64 dy)∧wr.cell? ⟨b,off+j*4+2,none⟩=some (.int .i64 dk)∧wr.cell? ⟨b,off+j*4+3,none⟩=some (.int .i64 di):=⟨hck 0 (show 0<4 by decide),hck 1 (show 1<4 by decide),hck 2 (show 2<4 by decide),hck 3 (show 3<4 by decide)⟩;obtain⟨K,hK⟩:∃K,a4c (l.take j) k=K:=⟨_,rfl⟩;rw[hK] at hrow hKn hKl;simp only at hKn;obtain⟨va,vc,rfl,-⟩:=(a0b a6s hrow (by omega)).form;have hzr:=hbr.size;clear hck hc hLr hK hp;go_upto_region 5 with fail;have kX:=Blk.new wr #[.int .i64 dx,.int .i64 dy,.int .i64 dk,.int .i64 di] 54;have hbP:Below wr.heap.size wr (wr.alloc (.cells #[.int .i64 dx,.int .i64 dy,.int .i64 dk,.int .i64 di] 54)):=(zR _ _).alloc (yR _) _;obtain⟨W9,hW9⟩:∃X,wr.alloc (.cells #[.int .i64 dx,.int .i64 dy,.int .i64 dk,.int .i64 di] 54)=X:=⟨_,rfl⟩;rw[hW9] at kX hbP ⊢;obtain⟨BP,hBP⟩:∃X,wr.heap.size=X:=⟨_,rfl⟩;have hz9:=hbP.size;have hrow9:=a1k hrow hbP;have hb19:Below W.heap.size W W9:=hbr.trans (hbP.mono hzr);rw[hBP] at kX ⊢;obtain⟨x0,x1,x2,x3⟩:W9.cell? ⟨BP,0,none⟩=some (.int .i64 dx)∧W9.cell? ⟨BP,1,none⟩=some (.int .i64 dy)∧W9.cell? ⟨BP,2,none⟩=some (.int .i64 dk)∧W9.cell? ⟨BP,3,none⟩=some (.int .i64 di):=⟨kX.cell 0,kX.cell 1,kX.cell 2,kX.cell 3⟩;clear hW9 d0 d1 d2 d3;by_cases h1:dk=k
   ·subst h1
    ·skip
     rw[if_pos (by simp)] at hKn;go_wp2_with (first
      |(at_builtin;refine El.push a6s d1w (by rfl) _ _ (by rfl) (by rfl) hrow9 ⟨dx,dy,dk,di⟩ (by rfl) rfl (by omega) (by omega) ?_;intro v11 w11 hr11 hf11 hg11 hb11
        obtain⟨a11,c11,rfl⟩:=hf11)
      |fail)
     go_roundw
     case rel=>exact⟨j+1,by omega,by go_num,by rw[hKn];simpa using hr11,hb19.trans hb11⟩
     case measure=>simp[intOf];omega
   ·rw[if_neg (by simp[h1])] at hKn
    have hb1:(dk==k)=false:=by simpa using h1
    rw[List.append_nil] at hKn;go_wp2_with fail;go_roundw
    case rel=>exact⟨j+1,by omega,by go_num,by rw[hKn];exact hrow9,hb19⟩
    case measure=>simp[intOf];omega
  ·obtain rfl:j=l.length:=by omega
   have hge:¬(l.length:Int)<(l.length:Int):=by omega
   rw[List.take_length] at hrow;go_wp2_with fail;go_ret;exact⟨_,rfl,b3h hrow hzW,hb.trans (hbr.mono hzW)⟩
theorem b4m {P:Program}{fn:Func}{p q:Tmp}{ty tz:TypeId}(h:fn.results= #[.cell p ty,.cell q tz]){tmps:Array Value}{w:World}{g i:Nat}{t u:TypeId}{cs ds:Array Value}{d e:TypeDesc}
 (hp:tmps.getD p undef= .pointer (some ⟨g,0,none⟩)) (hg:Blk w g cs t) (hu:P.underlying ty=some d) (hd:(match d with | .struct _ | .array _ _=>true|_=>false)=true) (hi:(P.info? ty).map (·.size)=some cs.size)
 (hp2:tmps.getD q undef= .pointer (some ⟨i,0,none⟩)) (hg2:Blk w i ds u) (hu2:P.underlying tz=some e) (hd2:(match e with | .struct _ | .array _ _=>true|_=>false)=true) (hi2:(P.info? tz).map (·.size)=some ds.size) :
 (results fn tmps).run P w= .ok (.tuple #[.agg cs,.agg ds]) w:=by
 have hp':tmps[p]?.getD undef= .pointer (some ⟨g,0,none⟩):=by simpa using hp
 have hp2':tmps[q]?.getD undef= .pointer (some ⟨i,0,none⟩):=by simpa using hp2
 simp[results,h,hp',hp2',asAddr,run_loadVar_row w g t ty cs (0,0) d hg hu hd hi,run_loadVar_row w i u tz ds (0,0) e hg2 hu2 hd2 hi2,Result.andThen]
theorem b4n {P:Program}{fn:Func}{p q r:Tmp}{ty tz ta:TypeId}(h:fn.results= #[.cell p ty,.cell q tz,.cell r ta]){tmps:Array Value}{w:World}{g i j:Nat}{t u v:TypeId}{cs ds es:Array Value}{d e f:TypeDesc}
 (hp:tmps.getD p undef= .pointer (some ⟨g,0,none⟩)) (hg:Blk w g cs t) (hu:P.underlying ty=some d) (hd:(match d with | .struct _ | .array _ _=>true|_=>false)=true) (hi:(P.info? ty).map (·.size)=some cs.size)
 (hp2:tmps.getD q undef= .pointer (some ⟨i,0,none⟩)) (hg2:Blk w i ds u) (hu2:P.underlying tz=some e) (hd2:(match e with | .struct _ | .array _ _=>true|_=>false)=true) (hi2:(P.info? tz).map (·.size)=some ds.size)
 (hp3:tmps.getD r undef= .pointer (some ⟨j,0,none⟩)) (hg3:Blk w j es v) (hu3:P.underlying ta=some f) (hd3:(match f with | .struct _ | .array _ _=>true|_=>false)=true) (hi3:(P.info? ta).map (·.size)=some es.size) :
 (results fn tmps).run P w= .ok (.tuple #[.agg cs,.agg ds,.agg es]) w:=by
 have hp':tmps[p]?.getD undef= .pointer (some ⟨g,0,none⟩):=by simpa using hp
 have hp2':tmps[q]?.getD undef= .pointer (some ⟨i,0,none⟩):=by simpa using hp2
 have hp3':tmps[r]?.getD undef= .pointer (some ⟨j,0,none⟩):=by simpa using hp3
 simp[results,h,hp',hp2',hp3',asAddr,run_loadVar_row w g t ty cs (0,0) d hg hu hd hi,run_loadVar_row w i u tz ds (0,0) e hg2 hu2 hd2 hi2,run_loadVar_row w j v ta es (0,0) f hg3 hu3 hd3 hi3,Result.andThen]
theorem Blk.at30 {W:World}{b b':Nat}{c:Array Value}{t:TypeId}(h:Blk W b c t)(e:b=b'):Blk W b' c t:=e▸h
abbrev a7y:ByteArray:=⟨#[116,114,101,101]⟩
theorem d1b (id wt x y:Int)(nm:ByteArray)(w:World) :
 Calls prog 70 #[.int .i64 id,.string nm,.int .i64 wt,.int .i64 x,.int .i64 y] w fun e w'=>e= .returned (.agg #[.int .i64 id,.int .i64 x,.int .i64 y,.string a7y,.string nm,.int .i64 wt,.int .i64 1])∧Below w.heap.size w w':=by
 go_enter func70,ntmps70;go_wp2_with fail;exact bodyPost_ret (results_cell_row (by rfl) _ _ _ 66 _ (0,0) _ (by rfl) (Blk.new w _ _) underlying66 (by rfl) (by kernel_rfl)) rfl ⟨rfl,(by repeat' (first|with_reducible (first|exact zR _ _|exact yR _|assumption|refine zG ?_ ?_ _|refine zA ?_ ?_ _|refine zS ?_ ?_ _|refine zD ?_|refine yA ?_|refine yG ?_|refine yS ?_|refine yD ?_)|omega|(dsimp only;omega)))⟩
def exL:List Pc:=[⟨1,105,105,a7y,⟨#[69,108,109]⟩,5,1⟩,⟨2,135,105,a7y,⟨#[]⟩,3,1⟩,⟨3,105,55,a7y,⟨#[79,97,107]⟩,9,1⟩,⟨4,5,5,a7y,⟨#[]⟩,1,1⟩]
def exS30:Sh:=⟨0,0,10,40,30,2⟩
theorem c5y (w:World) :
 Calls prog 29 #[] w fun e w'=>∃B,e= .returned (.tuple #[.agg #[.slice none 0 0,.slice none 0 0,.slice none 0 0,.slice (some ⟨B,0,none⟩) 4 4],shV exS30])∧w.heap.size≤B∧Blk w' B (exL.flatMap plE.enc).toArray 66∧Below w.heap.size w w':=by
 go_enter func29,ntmps29;go_wp2_with (first
  |(go_at_call 70;(with_reducible refine (d1b _ _ _ _ _ _).mono ?_);rintro e w1⟨rfl,hb1⟩;obtain⟨p1,rfl⟩:=a0c hb1;clear hb1)
  |fail)
 refine bodyPost_ret (b4m (by rfl) (by rfl) ((((Blk.new w _ 37).alloc _).grow _).alloc _ |>.alloc _) underlying37 (by rfl) (by kernel_rfl) (by simp) ((((Blk.new (w.alloc _) _ 28).grow _).alloc _).alloc _) underlying28 (by rfl) (by kernel_rfl)) rfl ⟨_,rfl,?_,?_,(by repeat' (first|with_reducible (first|exact zR _ _|exact yR _|assumption|refine zG ?_ ?_ _|refine zA ?_ ?_ _|refine zS ?_ ?_ _|refine zD ?_|refine yA ?_|refine yG ?_|refine yS ?_|refine yD ?_)|omega|(dsimp only;omega)))⟩
 ·omega
 ·exact Blk.at30 ((Blk.new _ _ _).alloc _) (by simp)
def a5v (a b c d:Int)(raw:Sh):Sh:=if a % 16=15 then raw else ⟨b % 100,c % 60,4+a % 9,20+d % 41,20+c % 21,1+b % 4⟩
theorem d1c (a b c d:Int)(ha:0≤a∧a≤255)(hb:0≤b∧b≤255)(hc:0≤c∧c≤255)(hd:0≤d∧d≤255)(raw:Sh)(w:World) :
 Calls prog 32 #[.agg #[.int .u8 a,.int .u8 b,.int .u8 c,.int .u8 d],shV raw] w fun e w'=>e= .returned (shV (a5v a b c d raw))∧Below w.heap.size w w':=by
 unfold a5v;by_cases h15:a % 16=15
 ·rw[if_pos h15]
  have hbq:(a % 16==15)=true:=by simpa using h15
  go_enter func32,ntmps32;go_wp2_with fail;exact bodyPost_ret (results_cell_row (by rfl) _ _ _ 28 _ (0,0) _ (by simp) (Blk.new _ _ _) underlying28 (by rfl) (by kernel_rfl)) rfl ⟨rfl,(by repeat' (first|with_reducible (first|exact zR _ _|exact yR _|assumption|refine zG ?_ ?_ _|refine zA ?_ ?_ _|refine zS ?_ ?_ _|refine zD ?_|refine yA ?_|refine yG ?_|refine yS ?_|refine yD ?_)|omega|(dsimp only;omega)))⟩
 ·rw[if_neg h15]
  have hbq:(a % 16==15)=false:=by simpa using h15
  go_enter func32,ntmps32;go_wp2_with fail;exact bodyPost_ret (results_cell_row (by rfl) _ _ _ 28 _ (0,0) _ (by simp) (Blk.new _ _ _) underlying28 (by rfl) (by kernel_rfl)) rfl ⟨rfl,(by repeat' (first|with_reducible (first|exact zR _ _|exact yR _|assumption|refine zG ?_ ?_ _|refine zA ?_ ?_ _|refine zS ?_ ?_ _|refine zD ?_|refine yA ?_|refine yG ?_|refine yS ?_|refine yD ?_)|omega|(dsimp only;omega)))⟩
end
end Go.Proofs.YtfocdbjceedagaaGreatDoor
