/-
  Parts.
-/
import Derived.Test.YtfocdbjceedagaaGreatDoorZbs
set_option linter.unusedVariables false
set_option linter.unusedSimpArgs false
set_option maxHeartbeats 4000000
set_option maxRecDepth 100000
namespace Go.Proofs.YtfocdbjceedagaaGreatDoor
open Tryz
section
open Go Go.RowKit Go.Shelf Go.Lib
attribute [local go_sem] Oper.semAt_some
attribute [local go_sem ↓] Go.wp_at_zero Go.wp_at_succ
structure GWd (bm bs bp:Nat)(ev fv wv pv:Value)(s:Sh)(dv kv lv:Value)(l:List Pc)(ws:List Wy)(pl:Pn)(W:World):Prop where
 m:Blk W bm #[ev,fv,wv,pv] 37
 s:Blk W bs #[.int .i64 s.ax,.int .i64 s.ay,.int .i64 s.st,.int .i64 s.w,.int .i64 s.h,.int .i64 s.g] 28
 p:Blk W bp #[dv,kv,lv] 45
 M:MapOk W wv pv l ws
 P:PlanIn W (planV dv kv lv) pl
section
variable {bm bs bp:Nat}{ev fv wv pv:Value}{s:Sh}{dv kv lv:Value}{l:List Pc}{ws:List Wy}{pl:Pn}{W W':World}
theorem GWd.up (h:GWd bm bs bp ev fv wv pv s dv kv lv l ws pl W)(hb:Below W.heap.size W W'):GWd bm bs bp ev fv wv pv s dv kv lv l ws pl W' :=
 ⟨h.m.below hb h.m.lt,h.s.below hb h.s.lt,h.p.below hb h.p.lt,h.M.up hb,h.P.up hb⟩
theorem GWd.cells (h:GWd bm bs bp ev fv wv pv s dv kv lv l ws pl W):(W.cell? ⟨bm,0,none⟩=some ev∧W.cell? ⟨bm,1,none⟩=some fv∧W.cell? ⟨bm,2,none⟩=some wv∧W.cell? ⟨bm,3,none⟩=some pv)∧(W.cell? ⟨bs,0,none⟩=some (.int .i64 s.ax)∧W.cell? ⟨bs,1,none⟩=some (.int .i64 s.ay)∧W.cell? ⟨bs,2,none⟩=some (.int .i64 s.st)∧W.cell? ⟨bs,3,none⟩=some (.int .i64 s.w)∧W.cell? ⟨bs,4,none⟩=some (.int .i64 s.h)∧W.cell? ⟨bs,5,none⟩=some (.int .i64 s.g))∧(W.cell? ⟨bp,0,none⟩=some dv∧W.cell? ⟨bp,1,none⟩=some kv∧W.cell? ⟨bp,2,none⟩=some lv) :=
 ⟨⟨h.m.cell 0,h.m.cell 1,h.m.cell 2,h.m.cell 3⟩,⟨h.s.cell 0,h.s.cell 1,h.s.cell 2,h.s.cell 3,h.s.cell 4,h.s.cell 5⟩,⟨h.p.cell 0,h.p.cell 1,h.p.cell 2⟩⟩
theorem GWd.parts (h:GWd bm bs bp ev fv wv pv s dv kv lv l ws pl W):(Lst dtE W.heap.size W dv pl.dots∧Frm dv pl.dots.length)∧(Lst keE W.heap.size W kv pl.keys∧Frm kv pl.keys.length)∧Lst lfE W.heap.size W lv pl.left∧Frm lv pl.left.length:=by
 obtain⟨d,k,x,hpv,h1,h2,h3⟩:=h.P.ex
 simp only[Value.agg.injEq,Array.mk.injEq,List.cons.injEq,and_true] at hpv
 obtain⟨rfl,rfl,rfl⟩:=hpv
 exact⟨h1,h2,h3⟩
end
theorem cnt_step {α:Type}(f:α→Bool)(l:List α)(j:Nat)(h:j<l.length):(l.take (j+1)).countP f=(l.take j).countP f+(if f l[j] then 1 else 0):=by
 rw[←List.take_append_getElem h,List.countP_append]
 simp[List.countP_cons]
theorem gaps_law (la:Option Addr)(lcap:Nat)(rows:List (Value×List Int))(q0 q1 q2 b0 b1 b2 b3:Int)(raw:Sh)(fq0:fits q0)(fq1:fits q1)(fq2:fits q2)(h0:0≤b0∧b0≤255)(h1:0≤b1∧b1≤255)(h2:0≤b2∧b2≤255)(h3:0≤b3∧b3≤255)(fx:fits raw.ax)(fy:fits raw.ay)(w:World)(hM:Mat w.heap.size w (.slice la rows.length lcap) rows)(hPow:Pow w) :
 Calls prog 5 #[.agg (caseC (.slice la rows.length lcap) q0 q1 q2 b0 b1 b2 b3 raw)] w fun e w'=>e= .returned (.bool true)∧Below w.heap.size w w':=by
 have hsan:=fun (W:World) (hb:Below w.heap.size w W)=>sanity30 W (fun X h=>hPow.below (hb.trans (h.mono hb.size)))
 have hmad:=fun (W:World) (hb:Below w.heap.size w W)=>made30 la lcap rows q0 q1 q2 b0 b1 b2 b3 raw fq0 fq1 fq2 h0 h1 h2 h3 W ((hM.below hb).mono hb.size)
 have hb0:Below w.heap.size w (w.alloc (.cells (caseC (.slice la rows.length lcap) q0 q1 q2 b0 b1 b2 b3 raw) 30)):=(zR _ _).alloc (yR _) _
 obtain⟨fs0,fs1⟩:=sheetF_fits (a:=b0) (b:=b1) (c:=b2) (d:=b3) fx fy
 go_enter func5,ntmps5
 go_upto_region 1 with fail
 have kC:=Blk.new w (caseC (.slice la rows.length lcap) q0 q1 q2 b0 b1 b2 b3 raw) 30
 obtain⟨W0,hW0⟩:∃W,w.alloc (.cells (caseC (.slice la rows.length lcap) q0 q1 q2 b0 b1 b2 b3 raw) 30)=W:=⟨_,rfl⟩
 rw[hW0] at kC hb0 ⊢
 clear hW0
 go_upto_region 2 with (first
  |(go_at_call 8;(with_reducible refine (hsan _ hb0).mono ?_);rintro e w1⟨rfl,hb1⟩)
  |fail)
 have hbw1:=hb0.trans (hb1.mono hb0.size)
 have kC1:=kC.below hb1 kC.lt
 clear kC hb1 hsan hb0
 obtain⟨c0,c1,c2,c3,c4,c5,c6,c7,c8,c9,c10,c11,c12,c13⟩:w1.cell? ⟨w.heap.size,0,none⟩=some (.slice la rows.length lcap)∧w1.cell? ⟨w.heap.size,1,none⟩=some (.int .i64 q0)∧w1.cell? ⟨w.heap.size,2,none⟩=some (.int .i64 q1)∧w1.cell? ⟨w.heap.size,3,none⟩=some (.int .i64 q2)∧w1.cell? ⟨w.heap.size,4,none⟩=some (.int .u8 b0)∧w1.cell? ⟨w.heap.size,5,none⟩=some (.int .u8 b1)∧w1.cell? ⟨w.heap.size,6,none⟩=some (.int .u8 b2)∧w1.cell? ⟨w.heap.size,7,none⟩=some (.int .u8 b3)∧w1.cell? ⟨w.heap.size,8,none⟩=some (.int .i64 raw.ax)∧w1.cell? ⟨w.heap.size,9,none⟩=some (.int .i64 raw.ay)∧w1.cell? ⟨w.heap.size,10,none⟩=some (.int .i64 raw.st)∧w1.cell? ⟨w.heap.size,11,none⟩=some (.int .i64 raw.w)∧w1.cell? ⟨w.heap.size,12,none⟩=some (.int .i64 raw.h)∧w1.cell? ⟨w.heap.size,13,none⟩=some (.int .i64 raw.g):=⟨kC1.cell 0,kC1.cell 1,kC1.cell 2,kC1.cell 3,kC1.cell 4,kC1.cell 5,kC1.cell 6,kC1.cell 7,kC1.cell 8,kC1.cell 9,kC1.cell 10,kC1.cell 11,kC1.cell 12,kC1.cell 13⟩
 obtain⟨s,hsh⟩:∃s,sheetF b0 b1 b2 b3 raw=s:=⟨_,rfl⟩
 rw[hsh] at hmad fs0 fs1
 clear hsh
 go_upto_region 3 with (first
  |(go_at_call 9;(with_reducible refine (hmad _ hbw1).mono ?_);rintro e w2⟨ea,ne,ec,fa,nf,fc,wa,nw,wc,pa,pc,a1,m1,d1,a2,m2,d2,a3,m3,d3,a4,m4,d4,l,ws,rfl,hMo,hb2⟩)
  |fail)
 clear c0 c1 c2 c3 c4 c5 c6 c7 c8 c9 c10 c11 c12 c13 kC1 hmad
 have km:=((Blk.new w2 #[.slice ea ne ec,.slice fa nf fc,.slice wa nw wc,.slice pa l.length pc] 37).alloc (.cells #[.slice a1 m1 d1,.slice a2 m2 d2,.slice a3 m3 d3,.slice a4 m4 d4] 37)).alloc (.cells #[.int .i64 s.ax,.int .i64 s.ay,.int .i64 s.st,.int .i64 s.w,.int .i64 s.h,.int .i64 s.g] 28)
 have ks:=Blk.new ((w2.alloc (.cells #[.slice ea ne ec,.slice fa nf fc,.slice wa nw wc,.slice pa l.length pc] 37)).alloc (.cells #[.slice a1 m1 d1,.slice a2 m2 d2,.slice a3 m3 d3,.slice a4 m4 d4] 37)) #[.int .i64 s.ax,.int .i64 s.ay,.int .i64 s.st,.int .i64 s.w,.int .i64 s.h,.int .i64 s.g] 28
 obtain⟨W3,hW3⟩:∃W,((w2.alloc (.cells #[.slice ea ne ec,.slice fa nf fc,.slice wa nw wc,.slice pa l.length pc] 37)).alloc (.cells #[.slice a1 m1 d1,.slice a2 m2 d2,.slice a3 m3 d3,.slice a4 m4 d4] 37)).alloc (.cells #[.int .i64 s.ax,.int .i64 s.ay,.int .i64 s.st,.int .i64 s.w,.int .i64 s.h,.int .i64 s.g] 28)=W:=⟨_,rfl⟩
 have hb23:Below w2.heap.size w2 W3:=by rw[←hW3];exact (((zR _ _).alloc (yR _) _).alloc (by simp) _).alloc (by simp;omega) _
 simp only[World.size_alloc] at ks
 rw[hW3] at km ks ⊢
 have hM3:=hMo.up hb23
 have hbw3:=(hbw1.trans (hb2.mono hbw1.size)).trans (hb23.mono (Nat.le_trans hbw1.size hb2.size))
 obtain⟨n2,hn2⟩:∃n,w2.heap.size=n:=⟨_,rfl⟩
 rw[hn2] at km ks ⊢
 clear hW3 hn2 hb23 hMo hb2 hbw1 hM
 have hP3:∀X,Below W3.heap.size W3 X→Pow X:=fun X h=>hPow.below (hbw3.trans (h.mono hbw3.size))
 obtain⟨m0,m1,m2,m3⟩:W3.cell? ⟨n2,0,none⟩=some (.slice ea ne ec)∧W3.cell? ⟨n2,1,none⟩=some (.slice fa nf fc)∧W3.cell? ⟨n2,2,none⟩=some (.slice wa nw wc)∧W3.cell? ⟨n2,3,none⟩=some (.slice pa l.length pc):=⟨km.cell 0,km.cell 1,km.cell 2,km.cell 3⟩
 obtain⟨s0,s1,s2,s3,s4,s5⟩:W3.cell? ⟨n2+1+1,0,none⟩=some (.int .i64 s.ax)∧W3.cell? ⟨n2+1+1,1,none⟩=some (.int .i64 s.ay)∧W3.cell? ⟨n2+1+1,2,none⟩=some (.int .i64 s.st)∧W3.cell? ⟨n2+1+1,3,none⟩=some (.int .i64 s.w)∧W3.cell? ⟨n2+1+1,4,none⟩=some (.int .i64 s.h)∧W3.cell? ⟨n2+1+1,5,none⟩=some (.int .i64 s.g):=⟨ks.cell 0,ks.cell 1,ks.cell 2,ks.cell 3,ks.cell 4,ks.cell 5⟩
 by_cases hs:checkS s=0
 rotate_left 1
 ·have hMk:=fun X=>make_bad s fs0 fs1 hs (.slice ea ne ec) (.slice fa nf fc) (.slice wa nw wc) pa l.length pc X
  have hCk:=fun X=>check_bad s fs0 fs1 hs (.slice ea ne ec) (.slice fa nf fc) (.slice wa nw wc) (.slice none 0 0) (.slice none 0 0) (.slice none 0 0) pa l.length pc X
  obtain⟨c,hc⟩:∃c,checkS s=c:=⟨_,rfl⟩
  have hDc:=fun X=>check_eq hc X fs0 fs1
  rw[hc] at hMk hCk hs
  have hc0:(c != 0)=true:=by simpa using hs
  clear hc
  go_upto_region 4 with (first
   |(go_at_call 10;(with_reducible refine (hMk _).mono ?_);rintro e w4⟨rfl,hb4⟩)
   |fail)
  clear m0 m1 m2 m3 s0 s1 s2 s3 s4 s5
  have hb45:Below w4.heap.size w4 (w4.alloc (.cells #[.slice none 0 0,.slice none 0 0,.slice none 0 0] 45)):=(zR _ _).alloc (yR _) _
  have kp:=Blk.new w4 #[.slice none 0 0,.slice none 0 0,.slice none 0 0] 45
  obtain⟨W5,hW5⟩:∃W,w4.alloc (.cells #[.slice none 0 0,.slice none 0 0,.slice none 0 0] 45)=W:=⟨_,rfl⟩
  rw[hW5] at hb45 kp ⊢
  have hb35:=hb4.trans (hb45.mono hb4.size)
  have hbw5:=hbw3.trans (hb35.mono hbw3.size)
  have km5:=km.below hb35 km.lt
  have ks5:=ks.below hb35 ks.lt
  obtain⟨n4,hn4⟩:∃n,w4.heap.size=n:=⟨_,rfl⟩
  rw[hn4] at kp ⊢
  clear hW5 hn4 hb35 hb45 hb4 km ks
  obtain⟨s0,s1,s2,s3,s4,s5⟩:W5.cell? ⟨n2+1+1,0,none⟩=some (.int .i64 s.ax)∧W5.cell? ⟨n2+1+1,1,none⟩=some (.int .i64 s.ay)∧W5.cell? ⟨n2+1+1,2,none⟩=some (.int .i64 s.st)∧W5.cell? ⟨n2+1+1,3,none⟩=some (.int .i64 s.w)∧W5.cell? ⟨n2+1+1,4,none⟩=some (.int .i64 s.h)∧W5.cell? ⟨n2+1+1,5,none⟩=some (.int .i64 s.g):=⟨ks5.cell 0,ks5.cell 1,ks5.cell 2,ks5.cell 3,ks5.cell 4,ks5.cell 5⟩
  go_wp2_with (first
   |(go_at_call 22;(with_reducible refine (hDc _).mono ?_);rintro e w6⟨rfl,hb6⟩
     have km6:=km5.below hb6 km5.lt
     have ks6:=ks5.below hb6 ks5.lt
     have kp6:=kp.below hb6 kp.lt
     obtain⟨m0,m1,m2,m3⟩:w6.cell? ⟨n2,0,none⟩=some (.slice ea ne ec)∧w6.cell? ⟨n2,1,none⟩=some (.slice fa nf fc)∧w6.cell? ⟨n2,2,none⟩=some (.slice wa nw wc)∧w6.cell? ⟨n2,3,none⟩=some (.slice pa l.length pc):=⟨km6.cell 0,km6.cell 1,km6.cell 2,km6.cell 3⟩
     obtain⟨s0,s1,s2,s3,s4,s5⟩:w6.cell? ⟨n2+1+1,0,none⟩=some (.int .i64 s.ax)∧w6.cell? ⟨n2+1+1,1,none⟩=some (.int .i64 s.ay)∧w6.cell? ⟨n2+1+1,2,none⟩=some (.int .i64 s.st)∧w6.cell? ⟨n2+1+1,3,none⟩=some (.int .i64 s.w)∧w6.cell? ⟨n2+1+1,4,none⟩=some (.int .i64 s.h)∧w6.cell? ⟨n2+1+1,5,none⟩=some (.int .i64 s.g):=⟨ks6.cell 0,ks6.cell 1,ks6.cell 2,ks6.cell 3,ks6.cell 4,ks6.cell 5⟩
     obtain⟨p0,p1,p2⟩:w6.cell? ⟨n4,0,none⟩=some (.slice none 0 0)∧w6.cell? ⟨n4,1,none⟩=some (.slice none 0 0)∧w6.cell? ⟨n4,2,none⟩=some (.slice none 0 0):=⟨kp6.cell 0,kp6.cell 1,kp6.cell 2⟩)
   |(go_at_call 19;(with_reducible refine (hCk _).mono ?_);rintro e w7⟨rfl,hb7⟩)
   |fail)
  go_ret
  exact⟨rfl,hbw5.trans ((hb6.trans (hb7.mono hb6.size)).mono hbw5.size)⟩
 ·have hok:∀p∈l,PcOk p∧p.cls.size≤1000:=fun p hp=>⟨hM3.ok.ok p hp,hM3.ok.cl p hp⟩
  have hl6:=hM3.len
  have hMk:=make_any30 s fs0 fs1 hs (.slice ea ne ec) (.slice fa nf fc) (.slice wa nw wc) (.slice pa l.length pc) l ws W3 hM3.p hM3.frm (by omega) hok hM3.w (fun y hy=>(hM3.wo y hy).1) hM3.wl (fun y hy=>(hM3.wo y hy).2) hP3
  have hpc:=plan_chk (ws:=ws) hs hM3.ok
  have hpg:=plan_gap (s:=s) (ws:=ws) (sortP l)
  have hpo:=plan_on s ws (sortP l)
  have hpsm:=plan_sm (okS_of hs) ws (sortP l)
  have hpfi:=plan_lfi (s:=s) (ws:=ws) hM3.ok (fun y hy=>(hM3.wo y hy).1)
  have hpl:=plan_len s ws (sortP l)
  have hwl:=wd_len (okS_of hs) ws
  have hcnt:=fun p hp=>count_make (g:=s.g) (pf:=pfS s) (kf:=keyL) (wdF s ws) (wd_kind s ws) (sortP l) (fun q _=>pf_kind s q) (sort_nodup hM3.ok) (p:=p) ((sortP_perm l).mem_iff.2 hp)
  rw[(sortP_perm l).length_eq] at hpl
  obtain⟨pl,hplE⟩:∃pl,planF s ws (sortP l)=pl:=⟨_,rfl⟩
  rw[hplE] at hMk hpc hpg hpo hpsm hpfi hpl
  simp only[show makeF s.g (pfS s) keyL (wdF s ws) (sortP l)=pl from hplE] at hcnt
  clear hplE
  go_upto_region 4 with (first
   |(go_at_call 10;(with_reducible refine hMk.mono ?_);rintro e w4⟨v,rfl,hP,hb4⟩
     obtain⟨dv,kv,lv,rfl,⟨hd,-⟩,⟨hk,-⟩,hl,-⟩:=hP.ex
     obtain⟨da,dc,rfl,-⟩:=hd.form
     obtain⟨ka,kc,rfl,-⟩:=hk.form
     obtain⟨la',lc',rfl,-⟩:=hl.form)
   |fail)
  clear m0 m1 m2 m3 s0 s1 s2 s3 s4 s5 hMk hd hk hl
  have hb45:Below w4.heap.size w4 (w4.alloc (.cells #[.slice da pl.dots.length dc,.slice ka pl.keys.length kc,.slice la' pl.left.length lc'] 45)):=(zR _ _).alloc (yR _) _
  have hG5:GWd n2 (n2+1+1) w4.heap.size (.slice ea ne ec) (.slice fa nf fc) (.slice wa nw wc) (.slice pa l.length pc) s (.slice da pl.dots.length dc) (.slice ka pl.keys.length kc) (.slice la' pl.left.length lc') l ws pl (w4.alloc (.cells #[.slice da pl.dots.length dc,.slice ka pl.keys.length kc,.slice la' pl.left.length lc'] 45)) :=
   ⟨(km.below hb4 km.lt).alloc _,(ks.below hb4 ks.lt).alloc _,Blk.new _ _ _,(hM3.up hb4).up hb45,hP.up hb45⟩
  have hbw5:=hbw3.trans ((hb4.trans (hb45.mono hb4.size)).mono hbw3.size)
  obtain⟨W5,hW5⟩:∃W,w4.alloc (.cells #[.slice da pl.dots.length dc,.slice ka pl.keys.length kc,.slice la' pl.left.length lc'] 45)=W:=⟨_,rfl⟩
  obtain⟨n4,hn4⟩:∃n,w4.heap.size=n:=⟨_,rfl⟩
  rw[hW5] at hG5 hbw5 ⊢
  rw[hn4] at hG5 ⊢
  clear hW5 hn4 hb45 hb4 km ks hM3 hP hP3
  have hDc:=fun X=>check_eq hs X fs0 fs1
  have hCk:=fun X (h:GWd n2 (n2+1+1) n4 (.slice ea ne ec) (.slice fa nf fc) (.slice wa nw wc) (.slice pa l.length pc) s (.slice da pl.dots.length dc) (.slice ka pl.keys.length kc) (.slice la' pl.left.length lc') l ws pl X) (hb:Below w.heap.size w X) =>
   check30_any s fs0 fs1 hs (.slice ea ne ec) (.slice fa nf fc) (.slice wa nw wc) (.slice pa l.length pc) _ l ws pl X h.M.p h.M.frm (by omega) hok h.M.w (fun y hy=>(h.M.wo y hy).1) h.M.wl (fun y hy=>(h.M.wo y hy).2) (fun Y hY=>hPow.below (hb.trans (hY.mono hb.size))) h.P hpsm (by omega) hpfi 0 hpc
  have c5:=hG5.cells
  obtain⟨-,⟨s0,s1,s2,s3,s4,s5⟩,-⟩:=c5
  go_upto_region 8 with (first
   |(go_at_call 22;(with_reducible refine (hDc _).mono ?_);rintro e w6⟨rfl,hb6⟩
     have hG6:=hG5.up hb6
     have hbw6:=hbw5.trans (hb6.mono hbw5.size)
     have c6:=hG6.cells
     obtain⟨⟨m0,m1,m2,m3⟩,⟨s0,s1,s2,s3,s4,s5⟩,⟨p0,p1,p2⟩⟩:=c6)
   |(go_at_call 19;(with_reducible refine (hCk _ hG6 hbw6).mono ?_);rintro e w7⟨rfl,hb7⟩)
   |fail)
  have hG7:=hG6.up hb7
  have hbw7:=hbw6.trans (hb7.mono hbw6.size)
  clear m0 m1 m2 m3 s0 s1 s2 s3 s4 s5 p0 p1 p2 hG5 hG6 hbw5 hbw6 hb6 hb7 hCk hDc hbw3
  have hpp:=gaps_pair.1 hpg
  rw[List.pairwise_iff_getElem] at hpp
  have hlen:pl.dots.length≤10000:=by omega
  obtain⟨-,-,⟨p0,p1,p2⟩⟩:=hG7.cells
  go_wp2_with fail
  clear p0 p1 p2
  go_loopw [56] (fun i wr=>∃k:Nat,k≤pl.dots.length∧i= .int .i64 k∧Below w7.heap.size w7 wr) (fun i _=>pl.dots.length-(intOf i).toNat)
  case atStart=>exact⟨0,Nat.zero_le _,rfl,zR _ _⟩
  case round =>
   obtain⟨k,hk,rfl,hbr⟩:=hrel
   have hGr:=hG7.up hbr
   by_cases hlt:k<pl.dots.length
   ·have hltI:(k:Int)<(pl.dots.length:Int):=by omega
    obtain⟨b,off,cap,hv,hcap,hlb,hc⟩:=hGr.parts.1.1.some_ (by omega)
    simp only[Value.slice.injEq,true_and] at hv
    obtain⟨rfl,rfl⟩:=hv
    have hck:=hc k hlt
    have hon:=onS_iff.1 (hpo _ (List.getElem_mem hlt))
    have hsma:=hpsm _ (List.getElem_mem hlt)
    have hpk:=fun (j:Nat) (hj:j<k)=>hpp j k (by omega) hlt hj
    obtain⟨⟨ax,ay,ak,ai⟩,ha⟩:∃a,pl.dots[k]=a:=⟨_,rfl⟩
    rw[ha] at hck hon hsma
    simp only[ha] at hpk
    simp only at hon
    obtain⟨d0,d1,d2,d3⟩:wr.cell? ⟨b,off+k*4,none⟩=some (.int .i64 ax)∧wr.cell? ⟨b,off+k*4+1,none⟩=some (.int .i64 ay)∧wr.cell? ⟨b,off+k*4+2,none⟩=some (.int .i64 ak)∧wr.cell? ⟨b,off+k*4+3,none⟩=some (.int .i64 ai):=⟨hck 0 (show 0<4 by decide),hck 1 (show 1<4 by decide),hck 2 (show 2<4 by decide),hck 3 (show 3<4 by decide)⟩
    obtain⟨-,⟨s0,s1,s2,s3,s4,s5⟩,⟨p0,p1,p2⟩⟩:=hGr.cells
    have x1:¬ax<0:=by omega
    have x2:¬s.w≤ax:=by omega
    have y1:¬ay<0:=by omega
    have y2:¬s.h≤ay:=by omega
    have hk0:(0:Int)≤(k:Int):=by omega
    have hkc:(k:Int)≤(dc:Int):=by omega
    clear hck hc hon ha hpp
    go_wp2_with fail
    have kA:=Blk.new wr #[.int .i64 ax,.int .i64 ay,.int .i64 ak,.int .i64 ai] 54
    have hbA:Below w7.heap.size w7 (wr.alloc (.cells #[.int .i64 ax,.int .i64 ay,.int .i64 ak,.int .i64 ai] 54)):=hbr.alloc hbr.size _
    have hGA:=hGr.up ((zR _ _).alloc (yR _) (.cells #[.int .i64 ax,.int .i64 ay,.int .i64 ak,.int .i64 ai] 54))
    obtain⟨WA,hWA⟩:∃X,wr.alloc (.cells #[.int .i64 ax,.int .i64 ay,.int .i64 ak,.int .i64 ai] 54)=X:=⟨_,rfl⟩
    rw[hWA] at kA hbA hGA ⊢
    obtain⟨BA,hBA⟩:∃X,wr.heap.size=X:=⟨_,rfl⟩
    rw[hBA] at kA ⊢
    clear hWA hBA d0 d1 d2 d3 s0 s1 s2 s3 s4 s5 p0 p1 p2 hlb hbr hGr x1 x2 y1 y2
    go_loopw [88] (fun jj wi=>∃j:Nat,j≤k∧jj= .int .i64 (j:Nat)∧Below WA.heap.size WA wi) (fun jj _=>k-(intOf jj).toNat)
    case atStart=>exact⟨0,Nat.zero_le _,rfl,zR _ _⟩
    case round =>
     obtain⟨j,hj,rfl,hbi⟩:=hrel
     have hzi:=hbi.size
     by_cases hjk:j<k
     ·have hjI:(j:Int)<(k:Int):=by omega
      have hGi:=hGA.up hbi
      obtain⟨b',off',cap',hv,-,-,hc⟩:=hGi.parts.1.1.some_ (by omega)
      simp only[Value.slice.injEq,Option.some.injEq,Addr.mk.injEq,and_true,true_and] at hv
      obtain⟨⟨rfl,rfl⟩,rfl⟩:=hv
      have hjl:j<pl.dots.length:=by omega
      have hsmb:=hpsm _ (List.getElem_mem hjl)
      have hokg:=hpk j hjk
      have hcj:=hc j hjl
      obtain⟨⟨bx,by_,bk,bi⟩,hx⟩:∃x,pl.dots[j]=x:=⟨_,rfl⟩
      rw[hx] at hcj hokg hsmb
      obtain⟨e0,e1,e2,e3⟩:wr.cell? ⟨b,off+j*4,none⟩=some (.int .i64 bx)∧wr.cell? ⟨b,off+j*4+1,none⟩=some (.int .i64 by_)∧wr.cell? ⟨b,off+j*4+2,none⟩=some (.int .i64 bk)∧wr.cell? ⟨b,off+j*4+3,none⟩=some (.int .i64 bi):=⟨hcj 0 (show 0<4 by decide),hcj 1 (show 1<4 by decide),hcj 2 (show 2<4 by decide),hcj 3 (show 3<4 by decide)⟩
      have kA':=kA.below hbi kA.lt
      obtain⟨a0,a1_,a2_,a3_⟩:wr.cell? ⟨BA,0,none⟩=some (.int .i64 ax)∧wr.cell? ⟨BA,1,none⟩=some (.int .i64 ay)∧wr.cell? ⟨BA,2,none⟩=some (.int .i64 ak)∧wr.cell? ⟨BA,3,none⟩=some (.int .i64 ai):=⟨kA'.cell 0,kA'.cell 1,kA'.cell 2,kA'.cell 3⟩
      have s5:wr.cell? ⟨n2+1+1,5,none⟩=some (.int .i64 s.g):=hGi.s.cell 5
      obtain⟨ax0,ax1,ay0,ay1⟩:=id hsma
      obtain⟨bx0,bx1,by0,by1⟩:=id hsmb
      simp only at ax0 ax1 ay0 ay1 bx0 bx1 by0 by1
      have w1':IntKind.i64.wrap (ax-bx)=ax-bx:=wrap_in7 (by omega) (by omega)
      have w2':IntKind.i64.wrap (bx-ax)=bx-ax:=wrap_in7 (by omega) (by omega)
      have w3':IntKind.i64.wrap (ay-by_)=ay-by_:=wrap_in7 (by omega) (by omega)
      have w4':IntKind.i64.wrap (by_-ay)=by_-ay:=wrap_in7 (by omega) (by omega)
      clear hcj hc hx hpk
      go_wp2_with fail
      first|with_reducible refine wp_region_grow2 (by kernel_rfl) (by kernel_rfl) ?_|with_reducible refine wp_region_grow (by kernel_rfl) (by kernel_rfl) ?_
      repeat (first|go_big_quiet_step (fail)|quiet_step (fail))
      refine wpQuiet_nil ?_
      intro _ hw_
      obtain⟨p,hw_⟩:=hw_
      subst hw_
      have hnr:¬(ak≠3∧bk≠3)→nearD s.g ⟨ax,ay,ak,ai⟩ ⟨bx,by_,bk,bi⟩=false:=fun h=>by
       unfold okGap at hokg
       rw[Bool.or_eq_true] at hokg
       rcases hokg with h1|h1
       ·rw[Bool.and_eq_true] at h1
        exact absurd ⟨by simpa using h1.1,by simpa using h1.2⟩ h
       ·simpa using h1
      clear hokg hsmb ax0 ax1 ay0 ay1 bx0 bx1 by0 by1 e0 e1 e2 e3 w1' w2' w3' w4'
      by_cases hfree:ak≠3∧bk≠3
      ·have h1':(ak==3)=false:=by simpa using hfree.1
       have h2':(bk==3)=false:=by simpa using hfree.2
       clear hnr hfree
       go_wp2_with fail
       go_roundw
       case rel=>exact⟨j+1,by omega,by go_num,(by repeat' (first|with_reducible (first|exact zR _ _|exact yR _|assumption|refine zG ?_ ?_ _|refine zA ?_ ?_ _|refine zS ?_ ?_ _|refine zD ?_|refine yA ?_|refine yG ?_|refine yS ?_|refine yD ?_)|omega|(dsimp only;omega)))⟩
       case measure=>first|(simp[intOf];done)|(simp[intOf];omega)
      ·have hnr':=hnr hfree
       have h33:ak=3∨bk=3:=by omega
       clear hnr hfree
       by_cases hsame:ak=bk∧ai=bi
       ·have h3':(ak != bk)=false:=by simpa using hsame.1
        have h4':(ai != bi)=false:=by simpa using hsame.2
        clear hsame hnr'
        by_cases ha3:ak=3
        ·have h1':(ak==3)=true:=by simpa using ha3
         clear ha3 h33
         go_wp2_with fail
         go_roundw
         case rel=>exact⟨j+1,by omega,by go_num,(by repeat' (first|with_reducible (first|exact zR _ _|exact yR _|assumption|refine zG ?_ ?_ _|refine zA ?_ ?_ _|refine zS ?_ ?_ _|refine zD ?_|refine yA ?_|refine yG ?_|refine yS ?_|refine yD ?_)|omega|(dsimp only;omega)))⟩
         case measure=>first|(simp[intOf];done)|(simp[intOf];omega)
        ·have h1':(ak==3)=false:=by simpa using ha3
         have h2':(bk==3)=true:=by simpa using h33.resolve_left ha3
         clear ha3 h33
         go_wp2_with fail
         go_roundw
         case rel=>exact⟨j+1,by omega,by go_num,(by repeat' (first|with_reducible (first|exact zR _ _|exact yR _|assumption|refine zG ?_ ?_ _|refine zA ?_ ?_ _|refine zS ?_ ?_ _|refine zD ?_|refine yA ?_|refine yG ?_|refine yS ?_|refine yD ?_)|omega|(dsimp only;omega)))⟩
         case measure=>first|(simp[intOf];done)|(simp[intOf];omega)
       ·have hfar:¬max (max (ax-bx) (bx-ax)) (max (ay-by_) (by_-ay))<s.g:=by
         have hne:(decide (ak≠bk)||decide (ai≠bi))=true:=by
          rw[Bool.or_eq_true,decide_eq_true_eq,decide_eq_true_eq]
          omega
         unfold nearD at hnr'
         simp only at hnr'
         rw[hne,Bool.true_and,Bool.and_eq_false_iff,decide_eq_false_iff_not,decide_eq_false_iff_not] at hnr'
         omega
        clear hnr'
        by_cases hkk:ak=bk
        ·have h3':(ak != bk)=false:=by simpa using hkk
         have h4':(ai != bi)=true:=by
          have:ai≠bi:=fun h=>hsame ⟨hkk,h⟩
          simpa using this
         clear hsame hkk
         by_cases ha3:ak=3
         ·have h1':(ak==3)=true:=by simpa using ha3
          clear ha3 h33
          go_wp2_with fail
          go_roundw
          case rel=>exact⟨j+1,by omega,by go_num,(by repeat' (first|with_reducible (first|exact zR _ _|exact yR _|assumption|refine zG ?_ ?_ _|refine zA ?_ ?_ _|refine zS ?_ ?_ _|refine zD ?_|refine yA ?_|refine yG ?_|refine yS ?_|refine yD ?_)|omega|(dsimp only;omega)))⟩
          case measure=>first|(simp[intOf];done)|(simp[intOf];omega)
         ·have h1':(ak==3)=false:=by simpa using ha3
          have h2':(bk==3)=true:=by simpa using h33.resolve_left ha3
          clear ha3 h33
          go_wp2_with fail
          go_roundw
          case rel=>exact⟨j+1,by omega,by go_num,(by repeat' (first|with_reducible (first|exact zR _ _|exact yR _|assumption|refine zG ?_ ?_ _|refine zA ?_ ?_ _|refine zS ?_ ?_ _|refine zD ?_|refine yA ?_|refine yG ?_|refine yS ?_|refine yD ?_)|omega|(dsimp only;omega)))⟩
          case measure=>first|(simp[intOf];done)|(simp[intOf];omega)
        ·have h3':(ak != bk)=true:=by simpa using hkk
         clear hsame hkk
         by_cases ha3:ak=3
         ·have h1':(ak==3)=true:=by simpa using ha3
          clear ha3 h33
          go_wp2_with fail
          go_roundw
          case rel=>exact⟨j+1,by omega,by go_num,(by repeat' (first|with_reducible (first|exact zR _ _|exact yR _|assumption|refine zG ?_ ?_ _|refine zA ?_ ?_ _|refine zS ?_ ?_ _|refine zD ?_|refine yA ?_|refine yG ?_|refine yS ?_|refine yD ?_)|omega|(dsimp only;omega)))⟩
          case measure=>first|(simp[intOf];done)|(simp[intOf];omega)
         ·have h1':(ak==3)=false:=by simpa using ha3
          have h2':(bk==3)=true:=by simpa using h33.resolve_left ha3
          clear ha3 h33
          go_wp2_with fail
          go_roundw
          case rel=>exact⟨j+1,by omega,by go_num,(by repeat' (first|with_reducible (first|exact zR _ _|exact yR _|assumption|refine zG ?_ ?_ _|refine zA ?_ ?_ _|refine zS ?_ ?_ _|refine zD ?_|refine yA ?_|refine yG ?_|refine yS ?_|refine yD ?_)|omega|(dsimp only;omega)))⟩
          case measure=>first|(simp[intOf];done)|(simp[intOf];omega)
     ·obtain rfl:j=k:=by omega
      have hge:¬(j:Int)<(j:Int):=by omega
      go_wp2_with fail
      go_roundw
      case rel=>exact⟨j+1,by omega,by go_num,hbA.trans (hbi.mono hbA.size)⟩
      case measure=>first|(simp[intOf];done)|(simp[intOf];omega)
   ·obtain rfl:k=pl.dots.length:=by omega
    have hge:¬(pl.dots.length:Int)<(pl.dots.length:Int):=by omega
    have hbw8:=hbw7.trans (hbr.mono hbw7.size)
    clear hG7 hbw7
    obtain⟨⟨m0,m1,m2,m3⟩,-,-⟩:=hGr.cells
    go_wp2_with fail
    clear m0 m1 m2 m3
    go_loopw [149] (fun i wx=>∃k:Nat,k≤l.length∧i= .int .i64 k∧Below wr.heap.size wr wx) (fun i _=>l.length-(intOf i).toNat)
    case atStart=>exact⟨0,Nat.zero_le _,rfl,zR _ _⟩
    case round =>
     obtain⟨k,hk,rfl,hbr⟩:=hrel
     have hGk:=hGr.up hbr
     have hbwk:=hbw8.trans (hbr.mono hbw8.size)
     by_cases hlt:k<l.length
     ·have hltI:(k:Int)<(l.length:Int):=by omega
      obtain⟨b,off,cap,hv,-,-,hc⟩:=hGk.M.p.some_ (by omega)
      simp only[Value.slice.injEq,true_and] at hv
      obtain⟨rfl,rfl⟩:=hv
      have hck:=hc k hlt
      have hcn:=hcnt _ (List.getElem_mem hlt)
      obtain⟨hpo',hpc'⟩:=hok _ (List.getElem_mem hlt)
      obtain⟨⟨id,x,y,cls,nm,wt,ds⟩,hp⟩:∃p,l[k]=p:=⟨_,rfl⟩
      rw[hp] at hck hcn hpo' hpc'
      simp only at hcn hpc'
      obtain⟨d0,d1,d2,d3,d4,d5,d6⟩:wr.cell? ⟨b,off+k*7,none⟩=some (.int .i64 id)∧wr.cell? ⟨b,off+k*7+1,none⟩=some (.int .i64 x)∧wr.cell? ⟨b,off+k*7+2,none⟩=some (.int .i64 y)∧wr.cell? ⟨b,off+k*7+3,none⟩=some (.string cls)∧wr.cell? ⟨b,off+k*7+4,none⟩=some (.string nm)∧wr.cell? ⟨b,off+k*7+5,none⟩=some (.int .i64 wt)∧wr.cell? ⟨b,off+k*7+6,none⟩=some (.int .i64 ds):=⟨hck 0 (show 0<7 by decide),hck 1 (show 1<7 by decide),hck 2 (show 2<7 by decide),hck 3 (show 3<7 by decide),hck 4 (show 4<7 by decide),hck 5 (show 5<7 by decide),hck 6 (show 6<7 by decide)⟩
      obtain⟨-,-,⟨p0,p1,p2⟩⟩:=hGk.cells
      clear hck hc hp
      go_wp2_with fail
      have kA:=Blk.new wr #[.int .i64 id,.int .i64 x,.int .i64 y,.string cls,.string nm,.int .i64 wt,.int .i64 ds] 66
      have hbA0:Below wr.heap.size wr (wr.alloc (.cells #[.int .i64 id,.int .i64 x,.int .i64 y,.string cls,.string nm,.int .i64 wt,.int .i64 ds] 66)):=(zR _ _).alloc (yR _) _
      have hbA:=hbr.trans (hbA0.mono hbr.size)
      have hGA:=hGk.up hbA0
      have hbwA:=hbwk.trans (hbA0.mono hbwk.size)
      obtain⟨WA,hWA⟩:∃X,wr.alloc (.cells #[.int .i64 id,.int .i64 x,.int .i64 y,.string cls,.string nm,.int .i64 wt,.int .i64 ds] 66)=X:=⟨_,rfl⟩
      rw[hWA] at kA hbA hGA hbwA ⊢
      obtain⟨BA,hBA⟩:∃X,wr.heap.size=X:=⟨_,rfl⟩
      rw[hBA] at kA ⊢
      clear hWA hBA d0 d1 d2 d3 d4 d5 d6 p0 p1 p2 hbr hbA0 hGk hbwk
      have hll:pl.left.length≤10000:=by omega
      go_loopw [17,156] (fun cc jj wi=>∃j:Nat,j≤pl.left.length∧jj= .int .i64 (j:Nat)∧cc= .int .i64 (((pl.left.take j).countP fun l=>decide (l.p=id):Nat):Int)∧Below WA.heap.size WA wi) (fun cc jj _=>pl.left.length-(intOf jj).toNat)
      case atStart=>exact⟨0,Nat.zero_le _,rfl,by simp,zR _ _⟩
      case round =>
       obtain⟨j,hj,rfl,rfl,hbi⟩:=hrel
       have hzi:=hbi.size
       by_cases hjk:j<pl.left.length
       ·have hjI:(j:Int)<(pl.left.length:Int):=by omega
        have hGi:=hGA.up hbi
        obtain⟨b',off',cap',hv,-,-,hc⟩:=hGi.parts.2.2.1.some_ (by omega)
        simp only[Value.slice.injEq,true_and] at hv
        obtain⟨rfl,rfl⟩:=hv
        have hcj:=hc j hjk
        have hst:=cnt_step (fun l:Lf=>decide (l.p=id)) pl.left j hjk
        obtain⟨⟨lp,lk,li⟩,hx⟩:∃x,pl.left[j]=x:=⟨_,rfl⟩
        rw[hx] at hcj hst
        simp only at hst
        obtain⟨e0,e1,e2⟩:wr.cell? ⟨b',off'+j*3,none⟩=some (.int .i64 lp)∧wr.cell? ⟨b',off'+j*3+1,none⟩=some (.int .i64 lk)∧wr.cell? ⟨b',off'+j*3+2,none⟩=some (.int .i64 li):=⟨hcj 0 (show 0<3 by decide),hcj 1 (show 1<3 by decide),hcj 2 (show 2<3 by decide)⟩
        have a0:wr.cell? ⟨BA,0,none⟩=some (.int .i64 id):=(kA.below hbi kA.lt).cell 0
        have hcb:(pl.left.take j).countP (fun l=>decide (l.p=id))≤10000:=Nat.le_trans List.countP_le_length (by rw[List.length_take];omega)
        obtain⟨c,hcE⟩:∃c,(pl.left.take j).countP (fun l=>decide (l.p=id))=c:=⟨_,rfl⟩
        rw[hcE] at hst hcb ⊢
        clear hcE hcj hc hx
        by_cases hpe:lp=id
        ·rw[if_pos (by simpa using hpe)] at hst
         have hq:(lp==id)=true:=by simpa using hpe
         clear hpe
         go_wp2_with fail
         go_roundw
         case rel=>exact⟨j+1,by omega,by go_num,by rw[hst];go_num,(by repeat' (first|with_reducible (first|exact zR _ _|exact yR _|assumption|refine zG ?_ ?_ _|refine zA ?_ ?_ _|refine zS ?_ ?_ _|refine zD ?_|refine yA ?_|refine yG ?_|refine yS ?_|refine yD ?_)|omega|(dsimp only;omega)))⟩
         case measure=>first|(simp[intOf];done)|(simp[intOf];omega)
        ·rw[if_neg (by simpa using hpe)] at hst
         have hq:(lp==id)=false:=by simpa using hpe
         clear hpe
         go_wp2_with fail
         go_roundw
         case rel=>exact⟨j+1,by omega,by go_num,by rw[hst];rfl,(by repeat' (first|with_reducible (first|exact zR _ _|exact yR _|assumption|refine zG ?_ ?_ _|refine zA ?_ ?_ _|refine zS ?_ ?_ _|refine zD ?_|refine yA ?_|refine yG ?_|refine yS ?_|refine yD ?_)|omega|(dsimp only;omega)))⟩
         case measure=>first|(simp[intOf];done)|(simp[intOf];omega)
       ·obtain rfl:j=pl.left.length:=by omega
        have hge:¬(pl.left.length:Int)<(pl.left.length:Int):=by omega
        rw[List.take_length]
        have hGi:=hGA.up hbi
        have hbwi:=hbwA.trans (hbi.mono hbwA.size)
        obtain⟨cl,hcl⟩:∃c,leftC pl id=c:=⟨_,rfl⟩
        obtain⟨cm,hcm⟩:∃c,manyC pl id=c:=⟨_,rfl⟩
        rw[hcl,hcm] at hcn
        rw[show (pl.left.countP fun l=>decide (l.p=id))=cl from hcl]
        have kAi:=kA.below hbi kA.lt
        have hPl:=place_dts s id x y wt ds id cls nm
        obtain⟨-,-,⟨p0,p1,p2⟩⟩:=hGi.cells
        clear hcl hGA hbwA kA
        go_wp2_with fail
        clear p0 p1 p2
        go_loopw [20,171] (fun cc jj wx=>∃j:Nat,j≤pl.dots.length∧jj= .int .i64 (j:Nat)∧cc= .int .i64 (((pl.dots.take j).countP fun d=>decide (d.k=3)&&decide (d.i=id):Nat):Int)∧Below wr.heap.size wr wx) (fun cc jj _=>pl.dots.length-(intOf jj).toNat)
        case atStart=>exact⟨0,Nat.zero_le _,rfl,by simp,zR _ _⟩
        case round =>
         obtain⟨j,hj,rfl,rfl,hbj⟩:=hrel
         have hzj:=hbj.size
         have hGj:=hGi.up hbj
         have hbwj:=hbwi.trans (hbj.mono hbwi.size)
         have kAj:=kAi.below hbj kAi.lt
         by_cases hjk:j<pl.dots.length
         ·have hjI:(j:Int)<(pl.dots.length:Int):=by omega
          obtain⟨b',off',cap',hv,-,-,hc⟩:=hGj.parts.1.1.some_ (by omega)
          simp only[Value.slice.injEq,true_and] at hv
          obtain⟨rfl,rfl⟩:=hv
          have hcj:=hc j hjk
          have hst:=cnt_step (fun d:Dt=>decide (d.k=3)&&decide (d.i=id)) pl.dots j hjk
          obtain⟨⟨dx,dy,dk,di⟩,hx⟩:∃x,pl.dots[j]=x:=⟨_,rfl⟩
          rw[hx] at hcj hst
          simp only at hst
          obtain⟨e0,e1,e2,e3⟩:wr.cell? ⟨b',off'+j*4,none⟩=some (.int .i64 dx)∧wr.cell? ⟨b',off'+j*4+1,none⟩=some (.int .i64 dy)∧wr.cell? ⟨b',off'+j*4+2,none⟩=some (.int .i64 dk)∧wr.cell? ⟨b',off'+j*4+3,none⟩=some (.int .i64 di):=⟨hcj 0 (show 0<4 by decide),hcj 1 (show 1<4 by decide),hcj 2 (show 2<4 by decide),hcj 3 (show 3<4 by decide)⟩
          have a0:wr.cell? ⟨BA,0,none⟩=some (.int .i64 id):=kAj.cell 0
          have hcb:(pl.dots.take j).countP (fun d=>decide (d.k=3)&&decide (d.i=id))≤10000:=Nat.le_trans List.countP_le_length (by rw[List.length_take];omega)
          obtain⟨c,hcE⟩:∃c,(pl.dots.take j).countP (fun d=>decide (d.k=3)&&decide (d.i=id))=c:=⟨_,rfl⟩
          rw[hcE] at hst hcb ⊢
          clear hcE hcj hc hx
          by_cases hk3:dk=3
          ·have hq3:(dk==3)=true:=by simpa using hk3
           by_cases hpe:di=id
           ·rw[if_pos (by simp[hk3,hpe])] at hst
            have hq:(di==id)=true:=by simpa using hpe
            clear hpe hk3
            go_wp2_with fail
            go_roundw
            case rel=>exact⟨j+1,by omega,by go_num,by rw[hst];go_num,(by repeat' (first|with_reducible (first|exact zR _ _|exact yR _|assumption|refine zG ?_ ?_ _|refine zA ?_ ?_ _|refine zS ?_ ?_ _|refine zD ?_|refine yA ?_|refine yG ?_|refine yS ?_|refine yD ?_)|omega|(dsimp only;omega)))⟩
            case measure=>first|(simp[intOf];done)|(simp[intOf];omega)
           ·rw[if_neg (by simp[hpe])] at hst
            have hq:(di==id)=false:=by simpa using hpe
            clear hpe hk3
            go_wp2_with fail
            go_roundw
            case rel=>exact⟨j+1,by omega,by go_num,by rw[hst];rfl,(by repeat' (first|with_reducible (first|exact zR _ _|exact yR _|assumption|refine zG ?_ ?_ _|refine zA ?_ ?_ _|refine zS ?_ ?_ _|refine zD ?_|refine yA ?_|refine yG ?_|refine yS ?_|refine yD ?_)|omega|(dsimp only;omega)))⟩
            case measure=>first|(simp[intOf];done)|(simp[intOf];omega)
          ·rw[if_neg (by simp[hk3])] at hst
           have hq3:(dk==3)=false:=by simpa using hk3
           clear hk3
           go_wp2_with fail
           go_roundw
           case rel=>exact⟨j+1,by omega,by go_num,by rw[hst];rfl,(by repeat' (first|with_reducible (first|exact zR _ _|exact yR _|assumption|refine zG ?_ ?_ _|refine zA ?_ ?_ _|refine zS ?_ ?_ _|refine zD ?_|refine yA ?_|refine yG ?_|refine yS ?_|refine yD ?_)|omega|(dsimp only;omega)))⟩
           case measure=>first|(simp[intOf];done)|(simp[intOf];omega)
         ·obtain rfl:j=pl.dots.length:=by omega
          have hge:¬(pl.dots.length:Int)<(pl.dots.length:Int):=by omega
          rw[List.take_length]
          rw[show (pl.dots.countP fun d=>decide (d.k=3)&&decide (d.i=id))=cm from hcm]
          replace hPl:=hPl wr fs0 fs1 hpo'.id hpc' (hPow.below hbwj)
          rw[show plF s x y id cls id=pfS s ⟨id,x,y,cls,nm,wt,ds⟩ from rfl] at hPl
          obtain⟨⟨can,dl⟩,hpE⟩:∃r,pfS s ⟨id,x,y,cls,nm,wt,ds⟩=r:=⟨_,rfl⟩
          rw[hpE] at hPl hcn
          simp only at hPl hcn
          obtain⟨a0,a1_,a2_,a3_,a4_,a5_,a6_⟩:wr.cell? ⟨BA,0,none⟩=some (.int .i64 id)∧wr.cell? ⟨BA,1,none⟩=some (.int .i64 x)∧wr.cell? ⟨BA,2,none⟩=some (.int .i64 y)∧wr.cell? ⟨BA,3,none⟩=some (.string cls)∧wr.cell? ⟨BA,4,none⟩=some (.string nm)∧wr.cell? ⟨BA,5,none⟩=some (.int .i64 wt)∧wr.cell? ⟨BA,6,none⟩=some (.int .i64 ds):=⟨kAj.cell 0,kAj.cell 1,kAj.cell 2,kAj.cell 3,kAj.cell 4,kAj.cell 5,kAj.cell 6⟩
          obtain⟨-,⟨s0,s1,s2,s3,s4,s5⟩,-⟩:=hGj.cells
          clear hcm hpE
          go_upto_region 39 with (first
           |(go_at_call 23;(with_reducible refine hPl.mono ?_);rintro e w10⟨v10,rfl,hDt,hb10⟩
             obtain⟨-,va,vc,rfl,-⟩:=hDt.open_)
           |fail)
          have hbF:=hbA.trans ((hbi.trans ((hbj.trans (hb10.mono hzj)).mono hzi)).mono hbA.size)
          clear hPl a0 a1_ a2_ a3_ a4_ a5_ a6_ s0 s1 s2 s3 s4 s5 hDt
          rcases hcn with ⟨rfl,rfl⟩|⟨rfl,rfl,rfl⟩
          ·go_wp2_with fail
           go_roundw
           case rel=>exact⟨k+1,by omega,by go_num,hbF⟩
           case measure=>first|(simp[intOf];done)|(simp[intOf];omega)
          ·go_wp2_with fail
           go_roundw
           case rel=>exact⟨k+1,by omega,by go_num,hbF⟩
           case measure=>first|(simp[intOf];done)|(simp[intOf];omega)
     ·obtain rfl:k=l.length:=by omega
      have hge:¬(l.length:Int)<(l.length:Int):=by omega
      go_wp2_with fail
      go_ret
      exact⟨rfl,hbwk⟩
end
end Go.Proofs.YtfocdbjceedagaaGreatDoor
