/-
  Parts.
-/
import Derived.Test.YtfocdbjceedagaaGreatDoorXay
set_option linter.unusedVariables false
set_option linter.unusedSimpArgs false
set_option maxHeartbeats 2000000
set_option maxRecDepth 100000
namespace Go.Proofs.YtfocdbjceedagaaGreatDoor
open Tryz
section
open Go Go.RowKit Go.Shelf Go.Lib
attribute [local go_sem] Oper.semAt_some
attribute [local go_sem ↓] Go.wp_at_zero Go.wp_at_succ
theorem Calls.first30 {P:Program}{f:FuncId}{a:Array Value}{w:World}{A B:Prop}{e1 e2:Ending}{C:World→Prop}(hb:¬B)(h:Calls P f a w fun e w'=>(A∧e=e1∨B∧e=e2)∧C w'):Calls P f a w fun e w'=>e=e1∧C w' :=
 h.mono fun _ _ ⟨h1,h2⟩=>⟨h1.elim (fun x=>x.2) fun x=>absurd x.1 hb,h2⟩
theorem Calls.second30 {P:Program}{f:FuncId}{a:Array Value}{w:World}{A B:Prop}{e1 e2:Ending}{C:World→Prop}(ha:¬A)(h:Calls P f a w fun e w'=>(A∧e=e1∨B∧e=e2)∧C w'):Calls P f a w fun e w'=>e=e2∧C w' :=
 h.mono fun _ _ ⟨h1,h2⟩=>⟨h1.elim (fun x=>absurd x.1 ha) fun x=>x.2,h2⟩
theorem a2w {W W2:World}{n:Nat}{ev fv wv pv dv kv lv:Value}{s:Sh}(k1:Blk W n #[ev,fv,wv,pv] 37)(k2:Blk W (n+1) #[.int .i64 s.ax,.int .i64 s.ay,.int .i64 s.st,.int .i64 s.w,.int .i64 s.h,.int .i64 s.g] 28)(k3:Blk W (n+1+1) #[dv,kv,lv] 45)(k4:Blk W (n+1+1+1) #[.int .i64 0] 46)(hb:Below W.heap.size W W2) :
 (W2.cell? ⟨n,0,none⟩=some ev∧W2.cell? ⟨n,1,none⟩=some fv∧W2.cell? ⟨n,2,none⟩=some wv∧W2.cell? ⟨n,3,none⟩=some pv)∧(W2.cell? ⟨n+1,0,none⟩=some (.int .i64 s.ax)∧W2.cell? ⟨n+1,1,none⟩=some (.int .i64 s.ay)∧W2.cell? ⟨n+1,2,none⟩=some (.int .i64 s.st)∧W2.cell? ⟨n+1,3,none⟩=some (.int .i64 s.w)∧W2.cell? ⟨n+1,4,none⟩=some (.int .i64 s.h)∧W2.cell? ⟨n+1,5,none⟩=some (.int .i64 s.g))∧(W2.cell? ⟨n+1+1,0,none⟩=some dv∧W2.cell? ⟨n+1+1,1,none⟩=some kv∧W2.cell? ⟨n+1+1,2,none⟩=some lv)∧W2.cell? ⟨n+1+1+1,0,none⟩=some (.int .i64 0)∧W2.frozen? ⟨n+1+1+1,0,none⟩=false:=by
 have h1:=k1.below hb k1.lt;have h2:=k2.below hb k2.lt;have h3:=k3.below hb k3.lt;have h4:=k4.below hb k4.lt;exact⟨⟨h1.cell 0,h1.cell 1,h1.cell 2,h1.cell 3⟩,⟨h2.cell 0,h2.cell 1,h2.cell 2,h2.cell 3,h2.cell 4,h2.cell 5⟩,⟨h3.cell 0,h3.cell 1,h3.cell 2⟩,h4.cell 0,h4.frozen 0⟩
theorem c5u (s:Sh)(f0:a0k s.ax)(f1:a0k s.ay)(hs:a1x s≠0)(ev fv wv dv kv lv:Value)(pa:Option Addr)(pn pc:Nat)(w:World) :
 Calls prog 19 #[c0p ev fv wv (.slice pa pn pc),shV s,a2f dv kv lv] w fun e w'=>e= .returned (.int .i64 (a1x s))∧Below w.heap.size w w':=by
 have hBg:=fun w=>a5t s ev fv wv pa pn pc w f0 f1
 unfold a9d at hBg;rw[if_neg hs] at hBg;obtain⟨c,hc⟩:∃c,a1x s=c:=⟨_,rfl⟩;rw[hc] at hBg hs ⊢;have hc0:(c != 0)=true:=by simpa using hs
 clear hc;have hmf:∀(fn:Fn) (first cap:Array Value) (w:World),(Instr.makeFunc fn first cap).run prog w= .ok (.func fn first cap) w:=fun _ _ _ _=>rfl
 go_enter_defers func19,ntmps19
 go_upto_region 1 with fail;have k1:=((Blk.new w #[ev,fv,wv,.slice pa pn pc] 37).alloc (.cells #[.int .i64 s.ax,.int .i64 s.ay,.int .i64 s.st,.int .i64 s.w,.int .i64 s.h,.int .i64 s.g] 28)).alloc (.cells #[dv,kv,lv] 45) |>.alloc (.cells #[.int .i64 0] 46)
 have k2:=(Blk.new (w.alloc (.cells #[ev,fv,wv,.slice pa pn pc] 37)) #[.int .i64 s.ax,.int .i64 s.ay,.int .i64 s.st,.int .i64 s.w,.int .i64 s.h,.int .i64 s.g] 28).alloc (.cells #[dv,kv,lv] 45) |>.alloc (.cells #[.int .i64 0] 46)
 have k3:=Blk.new ((w.alloc (.cells #[ev,fv,wv,.slice pa pn pc] 37)).alloc (.cells #[.int .i64 s.ax,.int .i64 s.ay,.int .i64 s.st,.int .i64 s.w,.int .i64 s.h,.int .i64 s.g] 28)) #[dv,kv,lv] 45 |>.alloc (.cells #[.int .i64 0] 46)
 have k4:=Blk.new (((w.alloc (.cells #[ev,fv,wv,.slice pa pn pc] 37)).alloc (.cells #[.int .i64 s.ax,.int .i64 s.ay,.int .i64 s.st,.int .i64 s.w,.int .i64 s.h,.int .i64 s.g] 28)).alloc (.cells #[dv,kv,lv] 45)) #[.int .i64 0] 46;have hw1:Below w.heap.size w ((((w.alloc (.cells #[ev,fv,wv,.slice pa pn pc] 37)).alloc (.cells #[.int .i64 s.ax,.int .i64 s.ay,.int .i64 s.st,.int .i64 s.w,.int .i64 s.h,.int .i64 s.g] 28)).alloc (.cells #[dv,kv,lv] 45)).alloc (.cells #[.int .i64 0] 46)):=((((zR _ _).alloc (yR _) _).alloc (by simp) _).alloc (by simp;omega) _).alloc (by simp;omega) _;obtain⟨W1,hW1⟩:∃W1,(((w.alloc (.cells #[ev,fv,wv,.slice pa pn pc] 37)).alloc (.cells #[.int .i64 s.ax,.int .i64 s.ay,.int .i64 s.st,.int .i64 s.w,.int .i64 s.h,.int .i64 s.g] 28)).alloc (.cells #[dv,kv,lv] 45)).alloc (.cells #[.int .i64 0] 46)=W1:=⟨_,rfl⟩;have hz1:W1.heap.size=w.heap.size+1+1+1+1:=by rw[←hW1];simp
 simp only[World.size_alloc] at k1 k2 k3 k4;rw[hW1] at k1 k2 k3 k4 hw1 ⊢;clear hW1;replace hz1:=Lib.hid hz1;obtain⟨⟨m0,m1,m2,m3⟩,⟨s0,s1,s2,s3,s4,s5⟩,⟨p0,p1,p2⟩,e0,e1⟩:=a2w k1 k2 k3 k4 (zR _ _);go_wp2_with (first
  |(go_at_call 33;(with_reducible refine (hBg _).mono ?_);rintro e W2⟨rfl,hb2⟩
    obtain⟨-,-,-,x0,x1⟩:=a2w k1 k2 k3 k4 hb2)
  |fail)
 have hbw:=hw1.trans (hb2.mono hw1.size);refine leaves_cons (f:=47) (args:= #[.pointer (some ⟨w.heap.size+1+1+1,0,none⟩)]) (by simp) (by simp[go_sem]) ?_;refine (c5t _ _).mono ?_;rintro e u' w9⟨rfl,rfl,rfl⟩;obtain⟨W9,hW9⟩:∃W9,W2.setCell ⟨w.heap.size+1+1+1,0,none⟩ (.int .i64 c)=W9:=⟨_,rfl⟩;have hb9:Below w.heap.size w W9:=by rw[←hW9];exact hbw.setCell (show w.heap.size≤w.heap.size+1+1+1 by omega) _
 have y0:W9.cell? ⟨w.heap.size+1+1+1,0,none⟩=some (.int .i64 c):=by rw[←hW9];exact ((k4.below hb2 k4.lt).set 0 _).cell 0
 rw[hW9];simp[Leaves,settle,results,results19,go_sem,y0];exact hb9
theorem a5g (s:Sh)(f0:a0k s.ax)(f1:a0k s.ay)(hs:a1x s=0)(ev fv wv pv v:Value)(l:List Pc)(ws:List Wy)(pl:Pn)(w:World)(hL:Lst plE w.heap.size w pv l)(hF:Frm pv l.length)(hl:l.length≤80)(hok:∀p∈l,PcOk p∧p.cls.size≤1000)
 (hW:Wys w.heap.size w wv ws) (hid:∀y∈ws,a0k y.id) (hlen:ws.length≤100) (hpw:∀y∈ws,y.line.length≤100) (hPow:∀W,Below w.heap.size w W→Pow W)
 (hP:PlanIn w v pl) (hsm:∀d∈pl.dots,Sm d) (hpl:pl.dots.length≤10000) (hfi:∀x∈pl.left,a0k x.i) (r:Int) (hr:a7m s.g (pfS s) a5s pl (wdF s ws) (a1d l)=r) :
 Calls prog 19 #[c0p ev fv wv pv,shV s,v] w fun e w'=>e= .returned (.int .i64 r)∧Below w.heap.size w w':=by
 obtain⟨dv,kv,lv,rfl,⟨hd,hdf⟩,⟨hk,hkf⟩,hlf,hff⟩:=hP.ex;have hBg:=fun pa pc X=>a5t s ev fv wv pa l.length pc X f0 f1
 unfold a9d at hBg;rw[if_pos hs,if_neg (by omega)] at hBg;have hDt:=fun X (hb:Below w.heap.size w X)=>c8w s f0 f1 hs ev fv wv pv dv kv lv l ws pl X (hL.up hb) hF (by omega) hok (hW.up hb hb.size) hid hlen hpw (fun Y hY=>hPow Y (hb.trans (hY.mono hb.size))) (hd.up hb) (hlf.up hb) hff
 have hGp:=fun X (hb:Below w.heap.size w X)=>c8r s dv kv lv pl.dots X (hd.up hb) (by omega)
 rw[d1j hsm] at hGp;have hKy:=fun X (hb:Below w.heap.size w X)=>c8s ev fv wv pv dv kv lv l pl X (hL.up hb) hF (by omega) hok (hk.up hb) (hlf.up hb) hff
 have hRs:=fun X (hb:Below w.heap.size w X)=>b9q s f0 f1 hs ev fv wv pv dv kv lv l pl X (hL.up hb) hF (by omega) hok (fun Y hY=>hPow Y (hb.trans (hY.mono hb.size))) (hd.up hb) hdf hsm hpl (hlf.up hb) hff hfi
 unfold a7m at hr;obtain⟨pa,pc,rfl,-⟩:=hL.form;obtain⟨pn,hpn⟩:∃n,l.length=n:=⟨_,rfl⟩;rw[hpn] at hBg hDt hKy hRs ⊢;clear hL hF hok hW hid hlen hpw hPow hP hsm hpl hfi hd hdf hk hkf hlf hff hl hs f0 f1 hpn;have hmf:∀(fn:Fn) (first cap:Array Value) (w:World),(Instr.makeFunc fn first cap).run prog w= .ok (.func fn first cap) w:=fun _ _ _ _=>rfl
 go_enter_defers func19,ntmps19
 go_upto_region 1 with fail;have k1:=((Blk.new w #[ev,fv,wv,.slice pa pn pc] 37).alloc (.cells #[.int .i64 s.ax,.int .i64 s.ay,.int .i64 s.st,.int .i64 s.w,.int .i64 s.h,.int .i64 s.g] 28)).alloc (.cells #[dv,kv,lv] 45) |>.alloc (.cells #[.int .i64 0] 46)
 have k2:=(Blk.new (w.alloc (.cells #[ev,fv,wv,.slice pa pn pc] 37)) #[.int .i64 s.ax,.int .i64 s.ay,.int .i64 s.st,.int .i64 s.w,.int .i64 s.h,.int .i64 s.g] 28).alloc (.cells #[dv,kv,lv] 45) |>.alloc (.cells #[.int .i64 0] 46)
 have k3:=Blk.new ((w.alloc (.cells #[ev,fv,wv,.slice pa pn pc] 37)).alloc (.cells #[.int .i64 s.ax,.int .i64 s.ay,.int .i64 s.st,.int .i64 s.w,.int .i64 s.h,.int .i64 s.g] 28)) #[dv,kv,lv] 45 |>.alloc (.cells #[.int .i64 0] 46)
 have k4:=Blk.new (((w.alloc (.cells #[ev,fv,wv,.slice pa pn pc] 37)).alloc (.cells #[.int .i64 s.ax,.int .i64 s.ay,.int .i64 s.st,.int .i64 s.w,.int .i64 s.h,.int .i64 s.g] 28)).alloc (.cells #[dv,kv,lv] 45)) #[.int .i64 0] 46;have hw1:Below w.heap.size w ((((w.alloc (.cells #[ev,fv,wv,.slice pa pn pc] 37)).alloc (.cells #[.int .i64 s.ax,.int .i64 s.ay,.int .i64 s.st,.int .i64 s.w,.int .i64 s.h,.int .i64 s.g] 28)).alloc (.cells #[dv,kv,lv] 45)).alloc (.cells #[.int .i64 0] 46)):=((((zR _ _).alloc (yR _) _).alloc (by simp) _).alloc (by simp;omega) _).alloc (by simp;omega) _;obtain⟨W1,hW1⟩:∃W1,(((w.alloc (.cells #[ev,fv,wv,.slice pa pn pc] 37)).alloc (.cells #[.int .i64 s.ax,.int .i64 s.ay,.int .i64 s.st,.int .i64 s.w,.int .i64 s.h,.int .i64 s.g] 28)).alloc (.cells #[dv,kv,lv] 45)).alloc (.cells #[.int .i64 0] 46)=W1:=⟨_,rfl⟩;have hz1:W1.heap.size=w.heap.size+1+1+1+1:=by rw[←hW1];simp
 simp only[World.size_alloc] at k1 k2 k3 k4;rw[hW1] at k1 k2 k3 k4 hw1 ⊢;clear hW1;replace hz1:=Lib.hid hz1;obtain⟨⟨m0,m1,m2,m3⟩,⟨s0,s1,s2,s3,s4,s5⟩,⟨p0,p1,p2⟩,e0,e1⟩:=a2w k1 k2 k3 k4 (zR _ _);go_upto_region 5 with (first
  |(go_at_call 33;(with_reducible refine (hBg _ _ _).mono ?_);rintro e W2⟨rfl,hb2⟩
    have hbx0:=hb2;obtain⟨⟨m0,m1,m2,m3⟩,⟨s0,s1,s2,s3,s4,s5⟩,⟨p0,p1,p2⟩,x0,x1⟩:=a2w k1 k2 k3 k4 hbx0;have hbw0:=hw1.trans (hbx0.mono hw1.size))
  |fail)
 cases h1:cdF (pfS s) pl (wdF s ws) (a1d l)
 ·have hDt':=fun X hb=>Calls.second30 (by rw[h1];decide) (hDt X hb)
  rw[h1,if_neg (by decide)] at hr;subst hr;clear hDt hGp hKy hRs h1;go_wp2_with (first
   |(go_at_call 48;(with_reducible refine (hDt' _ hbw0).mono ?_);rintro e V0⟨rfl,hc0⟩
     have hbx1:=hbx0.trans (hc0.mono hbx0.size);obtain⟨⟨m0,m1,m2,m3⟩,⟨s0,s1,s2,s3,s4,s5⟩,⟨p0,p1,p2⟩,x0,x1⟩:=a2w k1 k2 k3 k4 hbx1;have hbw1:=hw1.trans (hbx1.mono hw1.size))
   |fail)
  have hbx:=hbx1;obtain⟨cc,hcc⟩:∃c:Int,c=42:=⟨_,rfl⟩;rw[←hcc];refine leaves_cons (f:=47) (args:= #[.pointer (some ⟨w.heap.size+1+1+1,0,none⟩)]) (by simp) (by simp[go_sem]) ?_;refine (b4n _ 0 _ _ x0 x1).mono ?_;rintro e u' w9⟨rfl,rfl,rfl⟩;have y0:=(k4.below hbx k4.lt).set 0 (.int .i64 cc);have hb9:=(hw1.trans (hbx.mono hw1.size)).setCell (p:=⟨w.heap.size+1+1+1,0,none⟩) (show w.heap.size≤w.heap.size+1+1+1 by omega) (.int .i64 cc);replace y0:=y0.cell 0;simp only[List.setIfInBounds_toArray,List.set_cons_zero] at y0;simp[Leaves,settle,results,results19,go_sem,y0];exact hb9
 ·have hDt':=fun X hb=>Calls.first30 (by rw[h1];decide) (hDt X hb)
  rw[h1,if_pos rfl] at hr;clear hDt h1;go_upto_region 6 with (first
   |(go_at_call 48;(with_reducible refine (hDt' _ hbw0).mono ?_);rintro e V0⟨rfl,hc0⟩
     have hbx1:=hbx0.trans (hc0.mono hbx0.size);obtain⟨⟨m0,m1,m2,m3⟩,⟨s0,s1,s2,s3,s4,s5⟩,⟨p0,p1,p2⟩,x0,x1⟩:=a2w k1 k2 k3 k4 hbx1;have hbw1:=hw1.trans (hbx1.mono hw1.size))
   |fail)
  cases h2:c1j s.g pl.dots
  ·have hGp':=fun X hb=>Calls.second30 (by rw[h2];decide) (hGp X hb)
   rw[h2,if_neg (by decide)] at hr;subst hr;clear hGp hKy hRs h2;go_wp2_with (first
    |(go_at_call 49;(with_reducible refine (hGp' _ hbw1).mono ?_);rintro e V1⟨rfl,hc1⟩
      have hbx2:=hbx1.trans (hc1.mono hbx1.size);obtain⟨⟨m0,m1,m2,m3⟩,⟨s0,s1,s2,s3,s4,s5⟩,⟨p0,p1,p2⟩,x0,x1⟩:=a2w k1 k2 k3 k4 hbx2;have hbw2:=hw1.trans (hbx2.mono hw1.size))
    |fail)
   have hbx:=hbx2;obtain⟨cc,hcc⟩:∃c:Int,c=41:=⟨_,rfl⟩;rw[←hcc];refine leaves_cons (f:=47) (args:= #[.pointer (some ⟨w.heap.size+1+1+1,0,none⟩)]) (by simp) (by simp[go_sem]) ?_;refine (b4n _ 0 _ _ x0 x1).mono ?_;rintro e u' w9⟨rfl,rfl,rfl⟩;have y0:=(k4.below hbx k4.lt).set 0 (.int .i64 cc);have hb9:=(hw1.trans (hbx.mono hw1.size)).setCell (p:=⟨w.heap.size+1+1+1,0,none⟩) (show w.heap.size≤w.heap.size+1+1+1 by omega) (.int .i64 cc);replace y0:=y0.cell 0;simp only[List.setIfInBounds_toArray,List.set_cons_zero] at y0;simp[Leaves,settle,results,results19,go_sem,y0];exact hb9
  ·have hGp':=fun X hb=>Calls.first30 (by rw[h2];decide) (hGp X hb)
   rw[h2,if_pos rfl] at hr;clear hGp h2;go_upto_region 7 with (first
    |(go_at_call 49;(with_reducible refine (hGp' _ hbw1).mono ?_);rintro e V1⟨rfl,hc1⟩
      have hbx2:=hbx1.trans (hc1.mono hbx1.size);obtain⟨⟨m0,m1,m2,m3⟩,⟨s0,s1,s2,s3,s4,s5⟩,⟨p0,p1,p2⟩,x0,x1⟩:=a2w k1 k2 k3 k4 hbx2;have hbw2:=hw1.trans (hbx2.mono hw1.size))
    |fail)
   by_cases h3:a4l a5s pl (a1d l)=pl.keys
   rotate_left 1
   ·have hKy':=fun X hb=>Calls.second30 h3 (hKy X hb)
    rw[if_neg h3] at hr;subst hr;clear hKy hRs h3;go_wp2_with (first
     |(go_at_call 50;(with_reducible refine (hKy' _ hbw2).mono ?_);rintro e V2⟨rfl,hc2⟩
       have hbx3:=hbx2.trans (hc2.mono hbx2.size);obtain⟨⟨m0,m1,m2,m3⟩,⟨s0,s1,s2,s3,s4,s5⟩,⟨p0,p1,p2⟩,x0,x1⟩:=a2w k1 k2 k3 k4 hbx3;have hbw3:=hw1.trans (hbx3.mono hw1.size))
     |fail)
    have hbx:=hbx3;obtain⟨cc,hcc⟩:∃c:Int,c=42:=⟨_,rfl⟩;rw[←hcc];refine leaves_cons (f:=47) (args:= #[.pointer (some ⟨w.heap.size+1+1+1,0,none⟩)]) (by simp) (by simp[go_sem]) ?_;refine (b4n _ 0 _ _ x0 x1).mono ?_;rintro e u' w9⟨rfl,rfl,rfl⟩;have y0:=(k4.below hbx k4.lt).set 0 (.int .i64 cc);have hb9:=(hw1.trans (hbx.mono hw1.size)).setCell (p:=⟨w.heap.size+1+1+1,0,none⟩) (show w.heap.size≤w.heap.size+1+1+1 by omega) (.int .i64 cc);replace y0:=y0.cell 0;simp only[List.setIfInBounds_toArray,List.set_cons_zero] at y0;simp[Leaves,settle,results,results19,go_sem,y0];exact hb9
   ·have hKy':=fun X hb=>Calls.first30 (fun h=>h h3) (hKy X hb)
    rw[if_pos h3] at hr;clear hKy h3;go_upto_region 8 with (first
     |(go_at_call 50;(with_reducible refine (hKy' _ hbw2).mono ?_);rintro e V2⟨rfl,hc2⟩
       have hbx3:=hbx2.trans (hc2.mono hbx2.size);obtain⟨⟨m0,m1,m2,m3⟩,⟨s0,s1,s2,s3,s4,s5⟩,⟨p0,p1,p2⟩,x0,x1⟩:=a2w k1 k2 k3 k4 hbx3;have hbw3:=hw1.trans (hbx3.mono hw1.size))
     |fail)
    cases h4:a2v s.g (pfS s) pl (a1d l)
    ·have hRs':=fun X hb=>Calls.second30 (by rw[h4];decide) (hRs X hb)
     rw[h4,if_neg (by decide)] at hr;subst hr;clear hRs h4;go_wp2_with (first
      |(go_at_call 51;(with_reducible refine (hRs' _ hbw3).mono ?_);rintro e V3⟨rfl,hc3⟩
        have hbx4:=hbx3.trans (hc3.mono hbx3.size);obtain⟨⟨m0,m1,m2,m3⟩,⟨s0,s1,s2,s3,s4,s5⟩,⟨p0,p1,p2⟩,x0,x1⟩:=a2w k1 k2 k3 k4 hbx4;have hbw4:=hw1.trans (hbx4.mono hw1.size))
      |fail)
     have hbx:=hbx4;obtain⟨cc,hcc⟩:∃c:Int,c=42:=⟨_,rfl⟩;rw[←hcc];refine leaves_cons (f:=47) (args:= #[.pointer (some ⟨w.heap.size+1+1+1,0,none⟩)]) (by simp) (by simp[go_sem]) ?_;refine (b4n _ 0 _ _ x0 x1).mono ?_;rintro e u' w9⟨rfl,rfl,rfl⟩;have y0:=(k4.below hbx k4.lt).set 0 (.int .i64 cc);have hb9:=(hw1.trans (hbx.mono hw1.size)).setCell (p:=⟨w.heap.size+1+1+1,0,none⟩) (show w.heap.size≤w.heap.size+1+1+1 by omega) (.int .i64 cc);replace y0:=y0.cell 0;simp only[List.setIfInBounds_toArray,List.set_cons_zero] at y0;simp[Leaves,settle,results,results19,go_sem,y0];exact hb9
    ·have hRs':=fun X hb=>Calls.first30 (by rw[h4];decide) (hRs X hb)
     rw[h4,if_pos rfl] at hr;clear hRs h4;go_upto_region 9 with (first
      |(go_at_call 51;(with_reducible refine (hRs' _ hbw3).mono ?_);rintro e V3⟨rfl,hc3⟩
        have hbx4:=hbx3.trans (hc3.mono hbx3.size);obtain⟨⟨m0,m1,m2,m3⟩,⟨s0,s1,s2,s3,s4,s5⟩,⟨p0,p1,p2⟩,x0,x1⟩:=a2w k1 k2 k3 k4 hbx4;have hbw4:=hw1.trans (hbx4.mono hw1.size))
      |fail)
     subst hr;go_wp2_with fail;have hbx:=hbx4;refine leaves_cons (f:=47) (args:= #[.pointer (some ⟨w.heap.size+1+1+1,0,none⟩)]) (by simp) (by simp[go_sem]) ?_;refine (c5t _ _).mono ?_;rintro e u' w9⟨rfl,rfl,rfl⟩;have y0:=(k4.below hbx k4.lt).set 0 (.int .i64 0);have hb9:=(hw1.trans (hbx.mono hw1.size)).setCell (p:=⟨w.heap.size+1+1+1,0,none⟩) (show w.heap.size≤w.heap.size+1+1+1 by omega) (.int .i64 0);replace y0:=y0.cell 0;simp only[List.setIfInBounds_toArray,List.set_cons_zero] at y0;simp[Leaves,settle,results,results19,go_sem,y0];exact hb9
theorem b4o {P:Program}{fn:Func}{p q:Tmp}{ty tz:TypeId}(h:fn.results= #[.cell p ty,.cell q tz]){tmps:Array Value}{w:World}{g i:Nat}{t u:TypeId}{cs ds:Array Value}{d e:TypeDesc}
 (hp:tmps.getD p undef= .pointer (some ⟨g,0,none⟩)) (hg:Blk w g cs t) (hu:P.underlying ty=some d) (hd:(match d with | .struct _ | .array _ _=>true|_=>false)=true) (hi:(P.info? ty).map (·.size)=some cs.size)
 (hp2:tmps.getD q undef= .pointer (some ⟨i,0,none⟩)) (hg2:Blk w i ds u) (hu2:P.underlying tz=some e) (hd2:(match e with | .struct _ | .array _ _=>true|_=>false)=true) (hi2:(P.info? tz).map (·.size)=some ds.size) :
 (results fn tmps).run P w= .ok (.tuple #[.agg cs,.agg ds]) w:=by
 have hp':tmps[p]?.getD undef= .pointer (some ⟨g,0,none⟩):=by simpa using hp
 have hp2':tmps[q]?.getD undef= .pointer (some ⟨i,0,none⟩):=by simpa using hp2
 simp[results,h,hp',hp2',asAddr,run_loadVar_row w g t ty cs (0,0) d hg hu hd hi,run_loadVar_row w i u tz ds (0,0) e hg2 hu2 hd2 hi2,Result.andThen]
theorem b4p {P:Program}{fn:Func}{p q r:Tmp}{ty tz ta:TypeId}(h:fn.results= #[.cell p ty,.cell q tz,.cell r ta]){tmps:Array Value}{w:World}{g i j:Nat}{t u v:TypeId}{cs ds es:Array Value}{d e f:TypeDesc}
 (hp:tmps.getD p undef= .pointer (some ⟨g,0,none⟩)) (hg:Blk w g cs t) (hu:P.underlying ty=some d) (hd:(match d with | .struct _ | .array _ _=>true|_=>false)=true) (hi:(P.info? ty).map (·.size)=some cs.size)
 (hp2:tmps.getD q undef= .pointer (some ⟨i,0,none⟩)) (hg2:Blk w i ds u) (hu2:P.underlying tz=some e) (hd2:(match e with | .struct _ | .array _ _=>true|_=>false)=true) (hi2:(P.info? tz).map (·.size)=some ds.size)
 (hp3:tmps.getD r undef= .pointer (some ⟨j,0,none⟩)) (hg3:Blk w j es v) (hu3:P.underlying ta=some f) (hd3:(match f with | .struct _ | .array _ _=>true|_=>false)=true) (hi3:(P.info? ta).map (·.size)=some es.size) :
 (results fn tmps).run P w= .ok (.tuple #[.agg cs,.agg ds,.agg es]) w:=by
 have hp':tmps[p]?.getD undef= .pointer (some ⟨g,0,none⟩):=by simpa using hp
 have hp2':tmps[q]?.getD undef= .pointer (some ⟨i,0,none⟩):=by simpa using hp2
 have hp3':tmps[r]?.getD undef= .pointer (some ⟨j,0,none⟩):=by simpa using hp3
 simp[results,h,hp',hp2',hp3',asAddr,run_loadVar_row w g t ty cs (0,0) d hg hu hd hi,run_loadVar_row w i u tz ds (0,0) e hg2 hu2 hd2 hi2,run_loadVar_row w j v ta es (0,0) f hg3 hu3 hd3 hi3,Result.andThen]
theorem Blk.at30 {W:World}{b b':Nat}{c:Array Value}{t:TypeId}(h:Blk W b c t)(e:b=b'):Blk W b' c t:=e▸h
abbrev a8b:ByteArray:=⟨#[116,114,101,101]⟩
theorem d1k (id wt x y:Int)(nm:ByteArray)(w:World) :
 Calls prog 70 #[.int .i64 id,.string nm,.int .i64 wt,.int .i64 x,.int .i64 y] w fun e w'=>e= .returned (.agg #[.int .i64 id,.int .i64 x,.int .i64 y,.string a8b,.string nm,.int .i64 wt,.int .i64 1])∧Below w.heap.size w w':=by
 go_enter func70,ntmps70;go_wp2_with fail;exact bodyPost_ret (results_cell_row (by rfl) _ _ _ 66 _ (0,0) _ (by rfl) (Blk.new w _ _) underlying66 (by rfl) (by kernel_rfl)) rfl ⟨rfl,zC⟩
def exL:List Pc:=[⟨1,105,105,a8b,⟨#[69,108,109]⟩,5,1⟩,⟨2,135,105,a8b,⟨#[]⟩,3,1⟩,⟨3,105,55,a8b,⟨#[79,97,107]⟩,9,1⟩,⟨4,5,5,a8b,⟨#[]⟩,1,1⟩]
def exS30:Sh:=⟨0,0,10,40,30,2⟩
theorem c5v (w:World) :
 Calls prog 29 #[] w fun e w'=>∃B,e= .returned (.tuple #[.agg #[.slice none 0 0,.slice none 0 0,.slice none 0 0,.slice (some ⟨B,0,none⟩) 4 4],shV exS30])∧w.heap.size≤B∧Blk w' B (exL.flatMap plE.enc).toArray 66∧Below w.heap.size w w':=by
 go_enter func29,ntmps29;go_wp2_with (first
  |(go_at_call 70;(with_reducible refine (d1k _ _ _ _ _ _).mono ?_);rintro e w1⟨rfl,hb1⟩;obtain⟨p1,rfl⟩:=a0e hb1;clear hb1)
  |fail)
 refine bodyPost_ret (b4o (by rfl) (by rfl) ((((Blk.new w _ 37).alloc _).grow _).alloc _ |>.alloc _) underlying37 (by rfl) (by kernel_rfl) (by simp) ((((Blk.new (w.alloc _) _ 28).grow _).alloc _).alloc _) underlying28 (by rfl) (by kernel_rfl)) rfl ⟨_,rfl,?_,?_,zC⟩
 ·omega
 ·exact Blk.at30 ((Blk.new _ _ _).alloc _) (by simp)
def a5v (a b c d:Int)(raw:Sh):Sh:=if a % 16=15 then raw else ⟨b % 100,c % 60,4+a % 9,20+d % 41,20+c % 21,1+b % 4⟩
theorem d1l (a b c d:Int)(ha:0≤a∧a≤255)(hb:0≤b∧b≤255)(hc:0≤c∧c≤255)(hd:0≤d∧d≤255)(raw:Sh)(w:World) :
 Calls prog 32 #[.agg #[.int .u8 a,.int .u8 b,.int .u8 c,.int .u8 d],shV raw] w fun e w'=>e= .returned (shV (a5v a b c d raw))∧Below w.heap.size w w':=by
 unfold a5v;by_cases h15:a % 16=15
 ·rw[if_pos h15]
  have hbq:(a % 16==15)=true:=by simpa using h15
  go_enter func32,ntmps32;go_wp2_with fail;exact bodyPost_ret (results_cell_row (by rfl) _ _ _ 28 _ (0,0) _ (by simp) (Blk.new _ _ _) underlying28 (by rfl) (by kernel_rfl)) rfl ⟨rfl,zC⟩
 ·rw[if_neg h15]
  have hbq:(a % 16==15)=false:=by simpa using h15
  go_enter func32,ntmps32;go_wp2_with fail;exact bodyPost_ret (results_cell_row (by rfl) _ _ _ 28 _ (0,0) _ (by simp) (Blk.new _ _ _) underlying28 (by rfl) (by kernel_rfl)) rfl ⟨rfl,zC⟩
end
section
open Go Go.RowKit
def exO:List Pc:=[⟨3,105,55,a8b,⟨#[79,97,107]⟩,9,1⟩,⟨1,105,105,a8b,⟨#[69,108,109]⟩,5,1⟩,⟨2,135,105,a8b,⟨#[]⟩,3,1⟩,⟨4,5,5,a8b,⟨#[]⟩,1,1⟩]
theorem b1p:a1d exL=exO:=by kernel_rfl
def exPl:Pn:=a3f exS30 [] exO
theorem b4q:exPl.left=[⟨2,3,1⟩,⟨4,0,0⟩]:=by decide +kernel
theorem c5w:exPl.keys=[⟨3,3,⟨#[32,21,1,5]⟩⟩,⟨1,1,⟨#[32,17,7,13]⟩⟩]:=by decide +kernel
theorem a8q:exPl.dots.length=17:=by decide +kernel
theorem c9b:exPl.dots.find? (atD 10 10)=some ⟨10,10,3,1⟩:=by decide +kernel
theorem c9c:exPl.dots.find? (atD 9 9)=none:=by decide +kernel
def b7c:Pn:=⟨exPl.dots.take 16,exPl.keys,exPl.left⟩
def b4r:Pn:=⟨exPl.dots,exPl.keys,[⟨2,3,3⟩,⟨4,0,0⟩]⟩
theorem c9d:c2c exPl exPl=true:=by decide +kernel
theorem c9e:c2c exPl b7c=false:=by decide +kernel
theorem d1m:a7m exS30.g (pfS exS30) a5s exPl (wdF exS30 []) exO=0:=by decide +kernel
theorem d1n:a7m exS30.g (pfS exS30) a5s b7c (wdF exS30 []) exO=42:=by decide +kernel
theorem d1o:a7m exS30.g (pfS exS30) a5s b4r (wdF exS30 []) exO=42:=by decide +kernel
theorem c9f:exO.map Pc.id=[3,1,2,4]:=rfl
end
section
open Go Go.RowKit Go.Shelf Go.Lib
attribute [local go_sem] Oper.semAt_some
attribute [local go_sem ↓] Go.wp_at_zero Go.wp_at_succ
theorem c5x (va vb:Value)(a:List Int)(w:World)(ha:Lst inE w.heap.size w va a)(hb:Lst inE w.heap.size w vb a)(hl:a.length≤100000) :
 Calls prog 13 #[va,vb] w fun e w'=>e= .returned (.bool true)∧Below w.heap.size w w':=by
 obtain⟨aa,ac,rfl,-⟩:=ha.form;obtain⟨ba,bc,rfl,-⟩:=hb.form;go_enter func13,ntmps13;go_wp2_with fail;go_loopw [5] (fun i wr=>∃k:Nat,k≤a.length∧i= .int .i64 k∧Below w.heap.size w wr) (fun i _=>a.length-(intOf i).toNat)
 case atStart=>exact⟨0,Nat.zero_le _,rfl,zR _ _⟩
 case round =>
  obtain⟨k,hk,rfl,hB⟩:=hrel;have hsz:=hB.size;have ha':=ha.up hB;have hb':=hb.up hB;by_cases hlt:k<a.length
  ·have hltI:(k:Int)<(a.length:Int):=by omega
   obtain⟨b1,o1,cap1,hv1,-,-,hc1⟩:=ha'.some_ (by omega);simp only[Value.slice.injEq,true_and] at hv1;obtain⟨rfl,rfl⟩:=hv1;obtain⟨b2,o2,cap2,hv2,-,-,hc2⟩:=hb'.some_ (by omega);simp only[Value.slice.injEq,true_and] at hv2;obtain⟨rfl,rfl⟩:=hv2;obtain⟨d,hd⟩:∃d,a[k]=d:=⟨_,rfl⟩;have h1:=hc1 k hlt 0 (show 0<1 by decide);have h2:=hc2 k hlt 0 (show 0<1 by decide);rw[hd] at h1 h2;have c1:wr.cell? ⟨b1,o1+k,none⟩=some (.int .i64 d):=by simpa [inE] using h1
   have c2:wr.cell? ⟨b2,o2+k,none⟩=some (.int .i64 d):=by simpa [inE] using h2
   clear h1 h2 hc1 hc2 hd;go_wp2_with fail;first|with_reducible refine a0t (by kernel_rfl) (by kernel_rfl) ?_|with_reducible refine a0v (by kernel_rfl) (by kernel_rfl) ?_
   repeat (first|go_big_quiet_step (fail)|quiet_step (fail))
   refine wpQuiet_nil ?_;intro _ hw_;obtain⟨p,hw_⟩:=hw_;subst hw_;go_wp2_with fail;go_roundw
   case rel=>exact⟨k+1,by omega,by go_num,zC⟩
   case measure=>first|(simp[intOf];done)|(simp[intOf];omega)
  ·obtain rfl:k=a.length:=by omega
   have hge:¬(a.length:Int)<(a.length:Int):=by omega
   go_wp2_with fail;go_ret;exact⟨rfl,hB⟩
end
end Go.Proofs.YtfocdbjceedagaaGreatDoor
