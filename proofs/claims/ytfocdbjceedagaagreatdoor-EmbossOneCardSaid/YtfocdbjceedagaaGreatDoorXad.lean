/-
  Parts.
-/
import Derived.Test.YtfocdbjceedagaaGreatDoorXab
import Derived.Sort.MapsRangeIn
import Derived.Sort.KeysCollected
import Derived.Shelf.AbstractIn
import Derived.OwnWalkIn
import Derived.TacticsInMore
import Derived.RegionIn
import Derived.LoopNIn
import Derived.LoopIn
import Derived.RangeFuncWrites
import Derived.RangeFuncFrom
set_option linter.unusedVariables false
set_option linter.unusedSimpArgs false
set_option maxHeartbeats 4000000
set_option maxRecDepth 100000
namespace Go.Proofs.YtfocdbjceedagaaGreatDoor
open Tryz
section
open Go.RowKit Go.Shelf
attribute [local go_sem] Oper.semAt_some
theorem c1g (n lo hi:Int)(w:World) :
 Calls prog 59 #[.int .i64 n,.int .i64 lo,.int .i64 hi] w fun e w'=>e= .returned (.bool (decide (lo≤n)&&decide (n≤hi)))∧w=w':=by
 go_enter func59,ntmps59;go_wp2_with fail
 all_goals
  go_ret;exact⟨by first|rfl|(congr 2;simp;omega),rfl⟩
theorem c3i {a b:Int}(hb:0<b):a / b=if a.tmod b<0 then a.tdiv b-1 else a.tdiv b:=by
 have h1:=Int.mul_tdiv_add_tmod a b;have h2:=Int.lt_tmod_of_pos a hb;have h3:=Int.tmod_lt_of_pos a hb;split
 ·refine ((Int.ediv_emod_unique (a:=a) (b:=b) (r:=a.tmod b+b) (q:=a.tdiv b-1) hb).2 ⟨?_,?_,?_⟩).1
  ·rw[Int.mul_sub];omega
  ·omega
  ·omega
 ·refine ((Int.ediv_emod_unique (a:=a) (b:=b) (r:=a.tmod b) (q:=a.tdiv b) hb).2 ⟨?_,?_,?_⟩).1
  ·omega
  ·omega
  ·omega
theorem b9y {a b:Int}(hb:0<b){m:Int}(h0 : -m≤a)(h1:a≤m) : -m≤a.tdiv b∧a.tdiv b≤m:=by
 have h:(a.tdiv b).natAbs=a.natAbs / b.natAbs:=Int.natAbs_tdiv a b;have h2:a.natAbs / b.natAbs≤a.natAbs:=Nat.div_le_self _ _;omega
theorem c3j {a b:Int}(hb:0<b){m:Int}(h0 : -m≤a)(h1:a≤m) : -m≤a / b∧a / b≤m:=by
 have h:=Int.ediv_nonneg (a:=a+b*m) (b:=b) (by have:1*m≤b*m:=Int.mul_le_mul_of_nonneg_right (by omega) (by omega);omega) (by omega);rw[Int.add_mul_ediv_left _ _ (by omega)] at h;have:=Int.ediv_le_self b (a:=a);have h3:=(b9y hb h0 h1).2;have h4:=c3i (a:=a) hb;split at h4 <;> omega
theorem c3k (a b:Int)(w:World)(hb:0<b)(h0 : -4611686018427387904≤a)(h1:a≤4611686018427387904) :
 Calls prog 140 #[.int .i64 a,.int .i64 b] w fun e w'=>e= .returned (.int .i64 (a / b))∧w=w':=by
 obtain⟨q0,q1⟩:=b9y hb h0 h1;have hb0:¬b=0:=by omega
 have he:=c3i (a:=a) hb;go_enter func140,ntmps140;by_cases hs:a.tmod b<0
 ·rw[if_pos hs] at he
  replace he:=Lib.hid he;go_wp2_with fail;go_ret;exact⟨a3i he.out.symm,rfl⟩
 ·rw[if_neg hs] at he
  replace he:=Lib.hid he;go_wp2_with fail;go_ret;exact⟨a3i he.out.symm,rfl⟩
def a3a (x y:Int):Bool:=decide (-16384≤x)&&decide (x≤16384)&&(decide (-16384≤y)&&decide (y≤16384))
theorem c3l (x:Int)(b:Nat)(w:World)(hc:w.cell? ⟨b,0,none⟩=some (.int .i64 16384)) :
 Calls prog 155 #[.int .i64 x,.pointer (some ⟨b,0,none⟩)] w fun e w'=>e= .returned (.bool (!(decide (-16384≤x)&&decide (x≤16384))))∧∃q,w'=w.drewN q:=by
 go_enter func155,ntmps155;by_cases h1:x < -16384
 ·go_wp2_with fail
  go_ret;exact⟨by simp;omega,0,rfl⟩
 ·by_cases h2:16384<x
  ·go_wp2_with fail
   go_ret;exact⟨by simp;omega,0,rfl⟩
  ·go_wp2_with fail
   go_ret;exact⟨by simp <;> omega,0,rfl⟩
theorem d2h (b:Nat)(w:World)(hb:b<w.heap.size)(hc:w.cell? ⟨b,0,none⟩=some (.int .i64 16384)) :
 PredAt prog 155 #[.pointer (some ⟨b,0,none⟩)] (Value.int .i64) (fun x=> !(decide (-16384≤x)&&decide (x≤16384))) w:=fun W x h =>
 c3l x b W ((h.cell (p:=⟨b,0,none⟩) hb).trans hc)
theorem b8c (x y:Int)(b:Nat)(w:World)(h0:w.cell? ⟨b,0,none⟩=some (.int .i64 x))(h1:w.cell? ⟨b,1,none⟩=some (.int .i64 y)) :
 Calls prog 112 #[.int .i64 16384,.slice (some ⟨b,0,none⟩) 2 2] w fun e w'=>e= .returned (.bool (a3a x y))∧Below w.heap.size w w':=by
 have hl0:=World.block_lt_of_cell? _ _ h0;have e63:∀args w,(callFunc 155 args).run prog w= .ok (.enter 155 args) w:=enters_of func155 (by kernel_rfl) rfl;have hcon:=Go.Proofs.Tryz.slices_ContainsFunc (Value.int .i64) (fun x=> !(decide (-16384≤x)&&decide (x≤16384))) 155 #[.pointer (some ⟨w.heap.size,0,none⟩)] e63 b 0 2 2 [x,y] (w.alloc (.cells #[.int .i64 16384] 3))
  (d2h w.heap.size _ (by simp) (by simp)) (yR 2) (by omega) (fun j hj=>by
   refine Lib.cell?_alloc_some _ ?_;match j,hj with
   |0,_=>exact h0
   |1,_=>exact h1)
 have hr:(([x,y].take 2).any fun x=> !(decide (-16384≤x)&&decide (x≤16384)))= !a3a x y:=by simp[a3a]
 rw[hr] at hcon;clear hr;generalize hg:a3a x y=r at hcon ⊢;clear hg;go_enter func112,ntmps112;go_wp2_with (go_at_call 154;refine hcon.mono ?_;rintro e w'⟨rfl,q,rfl⟩);go_ret;exact⟨by simp,below_drewN' ((zR _ w).alloc (yR _) _) q⟩
theorem c3m (x y:Int)(w:World) :
 Calls prog 60 #[.agg #[.int .i64 x,.int .i64 y]] w fun e w'=>e= .returned (.bool (a3a x y))∧Below w.heap.size w w':=by
 go_enter func60,ntmps60;go_wp2_with (go_at_call 112;refine (b8c x y _ _ (by simp) (by simp)).mono ?_;rintro e w'⟨rfl,hb_⟩;obtain⟨p,rfl⟩:=a0e hb_;clear hb_);go_ret;exact⟨rfl,zC⟩
structure Sh where
 ax:Int
 ay:Int
 st:Int
 w:Int
 h:Int
 g:Int
abbrev shV (s:Sh):Value:= .agg #[.int .i64 s.ax,.int .i64 s.ay,.int .i64 s.st,.int .i64 s.w,.int .i64 s.h,.int .i64 s.g]
def inR (lo n hi:Int):Bool:=decide (lo≤n)&&decide (n≤hi)
theorem b3o {lo n hi:Int}:inR lo n hi=true↔lo≤n∧n≤hi:=by simp[inR]
def a1x (s:Sh):Int :=
 if inR 1 s.st 1024&&inR 1 s.w 80&&inR 1 s.h 80&&inR 1 s.g 4 then
  if a3a s.ax s.ay&&a3a (s.ax+s.w*s.st) (s.ay+s.h*s.st) then 0 else 10
 else 3
theorem a2i {n lo hi:Int}{b:Bool}(h:inR lo n hi=b)(w:World) :
 Calls prog 59 #[.int .i64 n,.int .i64 lo,.int .i64 hi] w fun e w'=>e= .returned (.bool b)∧w=w':=by
 have h':=c1g n lo hi w;rw[show (decide (lo≤n)&&decide (n≤hi))=b from h] at h';exact h'
theorem a6c {x y:Int}{b:Bool}(h:a3a x y=b)(w:World) :
 Calls prog 60 #[.agg #[.int .i64 x,.int .i64 y]] w fun e w'=>e= .returned (.bool b)∧Below w.heap.size w w':=by
 have h':=c3m x y w;rw[h] at h';exact h'
theorem c3n (x y a b:Int)(w:World)(h1 : -4611686018427387904≤x)(h2:x≤4611686018427387903)(h3 : -4611686018427387904≤y)(h4:y≤4611686018427387903)(h5 : -4611686018427387904≤a)(h6:a≤4611686018427387903)(h7 : -4611686018427387904≤b)(h8:b≤4611686018427387903) :
 Calls prog 61 #[.agg #[.int .i64 x,.int .i64 y],.agg #[.int .i64 a,.int .i64 b]] w fun e w'=>e= .returned (.agg #[.int .i64 (x+a),.int .i64 (y+b)])∧Below w.heap.size w w':=by
 go_enter func61,ntmps61;go_wp2_with fail;exact bodyPost_ret (v:= .agg #[.int .i64 (x+a),.int .i64 (y+b)]) (by simp[results,results61,go_sem]) rfl ⟨rfl,zC⟩
theorem c3o (s:Sh)(w:World)(f0:a0k s.ax)(f1:a0k s.ay) :
 Calls prog 22 #[shV s] w fun e w'=>e= .returned (.int .i64 (a1x s))∧Below w.heap.size w w':=by
 obtain⟨ax,ay,st,W,H,G⟩:=s;obtain⟨b1,h1⟩:∃b,inR 1 st 1024=b:=⟨_,rfl⟩;obtain⟨b2,h2⟩:∃b,inR 1 W 80=b:=⟨_,rfl⟩;obtain⟨b3,h3⟩:∃b,inR 1 H 80=b:=⟨_,rfl⟩;obtain⟨b4,h4⟩:∃b,inR 1 G 4=b:=⟨_,rfl⟩;obtain⟨b5,h5⟩:∃b,a3a ax ay=b:=⟨_,rfl⟩;obtain⟨b6,h6⟩:∃b,a3a (ax+W*st) (ay+H*st)=b:=⟨_,rfl⟩;have hr:a1x ⟨ax,ay,st,W,H,G⟩=if b1&&b2&&b3&&b4 then (if b5&&b6 then 0 else 10) else 3:=by
  unfold a1x;simp only[h1,h2,h3,h4,h5,h6]
 rw[hr];clear hr
 cases b1 with
 |false =>
  replace h1:=Lib.hid h1;clear h2 h3 h4 h5 h6;go_enter func22,ntmps22;go_wp2_with (go_at_call 59;refine (a2i (by first|with_reducible exact h1.out) _).mono ?_;rintro e w'⟨rfl,rfl⟩);go_ret;exact⟨rfl,zC⟩
 |true =>
 cases b2 with
 |false =>
  replace h1:=Lib.hid h1;replace h2:=Lib.hid h2;clear h3 h4 h5 h6;go_enter func22,ntmps22;go_wp2_with (go_at_call 59;refine (a2i (by first|with_reducible exact h1.out|with_reducible exact h2.out) _).mono ?_;rintro e w'⟨rfl,rfl⟩);go_ret;exact⟨rfl,zC⟩
 |true =>
 cases b3 with
 |false =>
  replace h1:=Lib.hid h1;replace h2:=Lib.hid h2;replace h3:=Lib.hid h3;clear h4 h5 h6;go_enter func22,ntmps22;go_wp2_with (go_at_call 59;refine (a2i (by first|with_reducible exact h1.out|with_reducible exact h2.out|with_reducible exact h3.out) _).mono ?_;rintro e w'⟨rfl,rfl⟩);go_ret;exact⟨rfl,zC⟩
 |true =>
 cases b4 with
 |false =>
  replace h1:=Lib.hid h1;replace h2:=Lib.hid h2;replace h3:=Lib.hid h3;replace h4:=Lib.hid h4;clear h5 h6;go_enter func22,ntmps22;go_wp2_with (go_at_call 59;refine (a2i (by first|with_reducible exact h1.out|with_reducible exact h2.out|with_reducible exact h3.out|with_reducible exact h4.out) _).mono ?_;rintro e w'⟨rfl,rfl⟩);go_ret;exact⟨rfl,zC⟩
 |true =>
 have q1:=b3o.1 h1;have q2:=b3o.1 h2;have q3:=b3o.1 h3;obtain⟨q10,q11⟩:=q1;obtain⟨q20,q21⟩:=q2;obtain⟨q30,q31⟩:=q3;have m1:=Int.mul_le_mul (a:=W) (b:=st) (c:=80) (d:=1024) q21 q11 (by omega) (by omega);have m2:=Int.mul_le_mul (a:=H) (b:=st) (c:=80) (d:=1024) q31 q11 (by omega) (by omega);have m3:=Int.mul_nonneg (a:=W) (b:=st) (by omega) (by omega);have m4:=Int.mul_nonneg (a:=H) (b:=st) (by omega) (by omega);have m1:W*st≤81920:=m1;have m2:H*st≤81920:=m2
 cases b5 with
 |false =>
  replace h1:=Lib.hid h1;replace h2:=Lib.hid h2;replace h3:=Lib.hid h3;replace h4:=Lib.hid h4;replace h5:=Lib.hid h5;clear h6;go_enter func22,ntmps22;go_wp2_with (first|(go_at_call 59;refine (a2i (by first|with_reducible exact h1.out|with_reducible exact h2.out|with_reducible exact h3.out|with_reducible exact h4.out) _).mono ?_;rintro e w'⟨rfl,rfl⟩)|(go_at_call 60;refine (a6c (by first|with_reducible exact h5.out) _).mono ?_;rintro e w'⟨rfl,hb_⟩;obtain⟨p,rfl⟩:=a0e hb_;clear hb_));go_ret;exact⟨rfl,zC⟩
 |true =>
 have q5:(-16384≤ax∧ax≤16384) ∧ -16384≤ay∧ay≤16384:=by simpa [a3a] using h5
 obtain⟨⟨q50,q51⟩,q52,q53⟩:=q5
 cases b6 with
 |false =>
  replace h1:=Lib.hid h1;replace h2:=Lib.hid h2;replace h3:=Lib.hid h3;replace h4:=Lib.hid h4;replace h5:=Lib.hid h5;replace h6:=Lib.hid h6;go_enter func22,ntmps22;go_wp2_with (first|(go_at_call 59;refine (a2i (by first|with_reducible exact h1.out|with_reducible exact h2.out|with_reducible exact h3.out|with_reducible exact h4.out) _).mono ?_;rintro e w'⟨rfl,rfl⟩)|(go_at_call 60;refine (a6c (by first|with_reducible exact h5.out|with_reducible exact h6.out) _).mono ?_;rintro e w'⟨rfl,hb_⟩;obtain⟨p,rfl⟩:=a0e hb_;clear hb_)|(go_at_call 61;refine (c3n _ _ _ _ _ (by omega) (by omega) (by omega) (by omega) (by omega) (by omega) (by omega) (by omega)).mono ?_;rintro e w'⟨rfl,hb_⟩;obtain⟨p,rfl⟩:=a0e hb_;clear hb_));go_ret;exact⟨rfl,zC⟩
 |true =>
  replace h1:=Lib.hid h1;replace h2:=Lib.hid h2;replace h3:=Lib.hid h3;replace h4:=Lib.hid h4;replace h5:=Lib.hid h5;replace h6:=Lib.hid h6;go_enter func22,ntmps22;go_wp2_with (first|(go_at_call 59;refine (a2i (by first|with_reducible exact h1.out|with_reducible exact h2.out|with_reducible exact h3.out|with_reducible exact h4.out) _).mono ?_;rintro e w'⟨rfl,rfl⟩)|(go_at_call 60;refine (a6c (by first|with_reducible exact h5.out|with_reducible exact h6.out) _).mono ?_;rintro e w'⟨rfl,hb_⟩;obtain⟨p,rfl⟩:=a0e hb_;clear hb_)|(go_at_call 61;refine (c3n _ _ _ _ _ (by omega) (by omega) (by omega) (by omega) (by omega) (by omega) (by omega) (by omega)).mono ?_;rintro e w'⟨rfl,hb_⟩;obtain⟨p,rfl⟩:=a0e hb_;clear hb_));go_ret;exact⟨rfl,zC⟩
def c6r (s:Sh)(x:Int):Int:=(x-s.ax) / s.st
def c6s (s:Sh)(y:Int):Int:=(y-s.ay) / s.st
def onS (s:Sh)(i j:Int):Bool:=inR 0 i (s.w-1)&&inR 0 j (s.h-1)
structure OkS (s:Sh):Prop where
 st0:1≤s.st
 st1:s.st≤1024
 w0:1≤s.w
 w1:s.w≤80
 h0:1≤s.h
 h1:s.h≤80
 x0 : -16384≤s.ax
 x1:s.ax≤16384
 y0 : -16384≤s.ay
 y1:s.ay≤16384
theorem a6d {x y:Int}:a3a x y=true↔(-16384≤x∧x≤16384) ∧ -16384≤y∧y≤16384:=by simp[a3a]
theorem a6o {s:Sh}(h:a1x s=0):OkS s:=by
 unfold a1x at h;split at h
 ·rename_i h1
  split at h
  ·rename_i h2
   simp only[Bool.and_eq_true,b3o,a6d] at h1 h2;exact⟨by omega,by omega,by omega,by omega,by omega,by omega,by omega,by omega,by omega,by omega⟩
  ·omega
 ·omega
theorem a9v {a b r:Int}(hr:a / b=r)(w:World)(hb:0<b)(h0 : -4611686018427387904≤a)(h1:a≤4611686018427387904) :
 Calls prog 140 #[.int .i64 a,.int .i64 b] w fun e w'=>e= .returned (.int .i64 r)∧w=w':=by
 have h:=c3k a b w hb h0 h1;rw[hr] at h;exact h
theorem c3p (s:Sh)(x y i j:Int)(w:World)(hi:c6r s x=i)(hj:c6s s y=j)(hs:OkS s)(x0 : -1048576≤x)(x1:x≤1048576)(y0 : -1048576≤y)(y1:y≤1048576) :
 Calls prog 83 #[shV s,.agg #[.int .i64 x,.int .i64 y]] w fun e w'=>e= .returned (.agg #[.int .i64 i,.int .i64 j])∧Below w.heap.size w w':=by
 obtain⟨ax,ay,st,W,H,G⟩:=s;obtain⟨s0,s1,-,-,-,-,a0,a1,b0,b1⟩:=hs;simp only[c6r,c6s] at hi hj s0 s1 a0 a1 b0 b1;replace hi:=Lib.hid hi;replace hj:=Lib.hid hj;go_enter func83,ntmps83;go_wp2_with fail;first|with_reducible refine a0c 19 (by kernel_rfl) (by kernel_rfl) ?_|with_reducible refine a0d 19 (by kernel_rfl) (by kernel_rfl) ?_
 simp only[List.take_succ_cons,List.take_zero,List.drop_succ_cons,List.drop_zero];repeat (first|go_big_quiet_step ((go_at_call 140;exact Calls.grow_of_same (a9v (by first|with_reducible exact hi.out|with_reducible exact hj.out) _ (by omega) (by omega) (by omega))))|quiet_step ((go_at_call 140;exact Calls.grow_of_same (a9v (by first|with_reducible exact hi.out|with_reducible exact hj.out) _ (by omega) (by omega) (by omega)))))
 refine wpQuiet_nil ?_;intro _ hw_;obtain⟨p,hw_⟩:=hw_;subst hw_;go_wp2_with fail;exact bodyPost_ret (v:= .agg #[.int .i64 i,.int .i64 j]) (by simp[results,results83,go_sem]) rfl ⟨rfl,zC⟩
theorem b0g (s:Sh)(i j:Int)(b:Bool)(w:World)(hb:onS s i j=b)(hs:OkS s) :
 Calls prog 67 #[shV s,.agg #[.int .i64 i,.int .i64 j]] w fun e w'=>e= .returned (.bool b)∧Below w.heap.size w w':=by
 obtain⟨ax,ay,st,W,H,G⟩:=s;obtain⟨s0,s1,u0,u1,v0,v1,a0,a1,b0,b1⟩:=hs;simp only[onS] at hb u0 u1 v0 v1;obtain⟨c1,h1⟩:∃b,inR 0 i (W-1)=b:=⟨_,rfl⟩;obtain⟨c2,h2⟩:∃b,inR 0 j (H-1)=b:=⟨_,rfl⟩;rw[h1,h2] at hb;subst hb;replace h1:=Lib.hid h1;replace h2:=Lib.hid h2
 cases c1
 ·go_enter func67,ntmps67
  go_wp2_with (go_at_call 59;refine (a2i (by first|with_reducible exact h1.out) _).mono ?_;rintro e w'⟨rfl,rfl⟩);go_ret;exact⟨rfl,zC⟩
 ·go_enter func67,ntmps67
  go_wp2_with (go_at_call 59;refine (a2i (by first|with_reducible exact h1.out|with_reducible exact h2.out) _).mono ?_;rintro e w'⟨rfl,rfl⟩);go_ret;exact⟨rfl,zC⟩
def ofS (s:Sh)(x y:Int):Int×Int×Bool :=
 if a1x s=0∧a3a x y=true∧onS s (c6r s x) (c6s s y)=true then (c6r s x,c6s s y,true) else (0,0,false)
theorem a7j {s:Sh}{r:Int}(hr:a1x s=r)(w:World)(f0:a0k s.ax)(f1:a0k s.ay) :
 Calls prog 22 #[shV s] w fun e w'=>e= .returned (.int .i64 r)∧Below w.heap.size w w':=by
 have h:=c3o s w f0 f1;rw[hr] at h;exact h
theorem d0q (s:Sh)(x y:Int)(w:World)(f0:a0k s.ax)(f1:a0k s.ay) :
 Calls prog 62 #[shV s,.agg #[.int .i64 x,.int .i64 y]] w fun e w'=>e= .returned (.tuple #[.int .i64 (ofS s x y).1,.int .i64 (ofS s x y).2.1,.bool (ofS s x y).2.2])∧Below w.heap.size w w':=by
 by_cases hc:a1x s=0
 ·have hs:=a6o hc
  obtain⟨b1,h1⟩:∃b,a3a x y=b:=⟨_,rfl⟩;obtain⟨i,hi⟩:∃i,c6r s x=i:=⟨_,rfl⟩;obtain⟨j,hj⟩:∃j,c6s s y=j:=⟨_,rfl⟩;obtain⟨b2,h2⟩:∃b,onS s i j=b:=⟨_,rfl⟩;have hr:ofS s x y=if b1=true∧b2=true then (i,j,true) else (0,0,false):=by
   unfold ofS;simp only[hc,h1,hi,hj,h2,true_and]
  rw[hr];clear hr;replace hc:=Lib.hid hc
  cases b1 with
  |false =>
   replace h1:=Lib.hid h1;replace hi:=Lib.hid hi;replace hj:=Lib.hid hj;obtain⟨ax,ay,st,W,H,G⟩:=s;clear h2;have hre:(if false=true∧b2=true then (i,j,true) else (0,0,false))=((0,0,false):Int×Int×Bool):=by simp
   rw[hre];clear hre;go_enter func62,ntmps62;go_wp2_with (first|(go_at_call 22;refine (a7j hc.out _ f0 f1).mono ?_;rintro e w'⟨rfl,hb_⟩;obtain⟨p,rfl⟩:=a0e hb_;clear hb_)|(go_at_call 60;refine (a6c h1.out _).mono ?_;rintro e w'⟨rfl,hb_⟩;obtain⟨p,rfl⟩:=a0e hb_;clear hb_));exact bodyPost_ret (v:= .tuple #[.int .i64 0,.int .i64 0,.bool false]) (by simp[results,results62,go_sem]) rfl ⟨rfl,zC⟩
  |true =>
   obtain⟨⟨x0,x1⟩,y0,y1⟩:=a6d.1 h1;replace h1:=Lib.hid h1;replace hi:=Lib.hid hi;replace hj:=Lib.hid hj;replace h2:=Lib.hid h2;obtain⟨ax,ay,st,W,H,G⟩:=s
   cases b2 <;>
   ·go_enter func62,ntmps62
    go_wp2_with (first|(go_at_call 22;refine (a7j hc.out _ f0 f1).mono ?_;rintro e w'⟨rfl,hb_⟩;obtain⟨p,rfl⟩:=a0e hb_;clear hb_)|(go_at_call 60;refine (a6c h1.out _).mono ?_;rintro e w'⟨rfl,hb_⟩;obtain⟨p,rfl⟩:=a0e hb_;clear hb_)|(go_at_call 83;refine (c3p ⟨ax,ay,st,W,H,G⟩ x y i j _ hi.out hj.out hs (by omega) (by omega) (by omega) (by omega)).mono ?_;rintro e w'⟨rfl,hb_⟩;obtain⟨p,rfl⟩:=a0e hb_;clear hb_)|(go_at_call 67;refine (b0g ⟨ax,ay,st,W,H,G⟩ i j _ _ h2.out hs).mono ?_;rintro e w'⟨rfl,hb_⟩;obtain⟨p,rfl⟩:=a0e hb_;clear hb_));first
     |exact bodyPost_ret (v:= .tuple #[.int .i64 0,.int .i64 0,.bool false]) (by simp[results,results62,go_sem]) rfl ⟨rfl,zC⟩
     |skip
    all_goals
     first|with_reducible refine a0t (by kernel_rfl) (by kernel_rfl) ?_|with_reducible refine a0v (by kernel_rfl) (by kernel_rfl) ?_
     repeat (first|go_big_quiet_step (fail)|quiet_step (fail))
     refine wpQuiet_nil ?_;intro _ hw_;obtain⟨p,hw_⟩:=hw_;subst hw_;go_wp2_with fail;exact bodyPost_ret (v:= .tuple #[.int .i64 i,.int .i64 j,.bool true]) (by simp[results,results62,go_sem]) rfl ⟨rfl,zC⟩
 ·have hr:ofS s x y=(0,0,false):=by unfold ofS;rw[if_neg (fun h=>hc h.1)]
  rw[hr];clear hr;obtain⟨c,hcc⟩:∃c,a1x s=c:=⟨_,rfl⟩;rw[hcc] at hc;replace hcc:=Lib.hid hcc;obtain⟨ax,ay,st,W,H,G⟩:=s;go_enter func62,ntmps62;go_wp2_with (go_at_call 22;refine (a7j hcc.out _ f0 f1).mono ?_;rintro e w'⟨rfl,hb_⟩;obtain⟨p,rfl⟩:=a0e hb_;clear hb_);exact bodyPost_ret (v:= .tuple #[.int .i64 0,.int .i64 0,.bool false]) (by simp[results,results62,go_sem]) rfl ⟨rfl,zC⟩
theorem d0r (n m:Int)(hm:1≤m):(n.tmod m+m) % m=n % m:=by
 rw[Int.add_emod_right,Int.tmod_eq_emod];split
 ·rw[Int.natCast_zero,Int.sub_zero,Int.emod_emod_of_dvd _ (Int.dvd_refl m)]
 ·rw[Int.natAbs_of_nonneg (by omega),Int.sub_emod_right,Int.emod_emod_of_dvd _ (Int.dvd_refl m)]
theorem a0p (n m:Int)(w:World)(hn:a0k n)(h1:1≤m)(h2:m≤4611686018427387904) :
 Calls prog 77 #[.int .i64 n,.int .i64 m] w fun r w'=>r= .returned (.int .i64 (n % m))∧w=w':=by
 obtain⟨n0,n1⟩:=hn;have b0:=Int.lt_tmod_of_pos n (b:=m) (by omega);have b1:=Int.tmod_lt_of_pos n (b:=m) (by omega);have b2:0≤n.tmod m+m:=by omega
 have b3:n.tmod m+m≤9223372036854775807:=by omega
 have h0:(m==0)=false:=by simp;omega
 have HM:=Lib.hid (d0r n m h1);go_enter func77,ntmps77;go_wp2_with fail;go_ret;exact⟨a3i HM.out,rfl⟩
theorem b5s (n lo hi:Int)(w:World) :
 Calls prog 141 #[.int .i64 n,.int .i64 lo,.int .i64 hi] w fun e w'=>e= .returned (.bool (inR lo n hi))∧w=w':=by
 go_enter func141,ntmps141;go_wp2_with fail
 all_goals
  go_ret;exact⟨by unfold inR;first|rfl|(congr 2;simp;omega),rfl⟩
theorem b0h {s:Sh}{i j:Int}:onS s i j=true↔(0≤i∧i<s.w)∧0≤j∧j<s.h:=by
 simp only[onS,inR,Bool.and_eq_true,decide_eq_true_eq];omega
end
section
open Go.RowKit Go.Maps
theorem c7d:laidOutB prog=true:=by kernel_rfl
theorem b9z:prog.cellsOf 3=1:=by kernel_rfl
theorem a8z {n:Int}(h:a0k n):(Lit.int .i64 n).wf=true:=by
 obtain⟨h0,h1⟩:=h;simp[Lit.wf,IntKind.min,IntKind.max,IntKind.signed,IntKind.bits];omega
theorem d0a {n:Int}(h:(Lit.int .i64 n).wf=true):a0k n:=by
 simp[Lit.wf,IntKind.min,IntKind.max,IntKind.signed,IntKind.bits] at h;exact⟨by omega,by omega⟩
theorem b0i (d:Nat)(cs:List Value)(L:List Lit)(h:prog.keyLits (d+1) 3 cs=some L):∃n,cs=[.int .i64 n]∧a0k n∧L=[.int .i64 n]:=by
 unfold Program.keyLits at h;rw[underlying3] at h;match cs,h with
 |[.int q n],h =>
  simp only at h;split at h
  ·rename_i hq
   obtain⟨rfl,hw⟩:=hq
   cases h;exact⟨n,rfl,d0a hw,rfl⟩
  ·cases h
abbrev a0r:=Int×Int
abbrev b7v (p:a0r):List Value:=[.int .i64 p.1,.int .i64 p.2]
abbrev a4e (p:a0r):Value:= .agg #[.int .i64 p.1,.int .i64 p.2]
def a7d (p:a0r):Prop:=a0k p.1∧a0k p.2
def klS (p:a0r):Lit:= .string (keyBytes [.int .i64 p.1,.int .i64 p.2])
theorem c0a:(match prog.underlying 122 with|some (.array _ _)|some (.struct _)=>true|_=>false)=true:=by kernel_rfl
theorem b0j:prog.cellsOf 122=2:=by kernel_rfl
theorem spotLaw:Keyed prog 122:=Keyed.of_law (deep_law_laid c7d (m:=2) (by omega) (of_decide_eq_true (by kernel_rfl)) (by kernel_rfl) c0a)
theorem c7e:prog.keyType 122=true:=by kernel_rfl
theorem a1p {p:a0r}(h:a7d p):keyOf prog 122 (a4e p)=some (klS p):=by
 obtain⟨x,y⟩:=p;obtain⟨hx,hy⟩:=h;have wx:=a8z hx;have wy:=a8z hy;unfold keyOf;rw[underlying122];have hf:(a4e (x,y)).formed prog 122=true:=by simp[Value.formed,underlying122,b0j]
 simp only[c7e,hf,Bool.and_self,if_true];have hk:prog.keyLits (prog.types.size+1) 122 [.int .i64 x,.int .i64 y]=some [.int .i64 x,.int .i64 y]:=by
  obtain⟨n,hn⟩:∃n,prog.types.size=n+1:=⟨prog.types.size-1,by have h:0<prog.types.size:=of_decide_eq_true (by kernel_rfl);omega⟩;rw[hn];unfold Program.keyLits;rw[underlying122];simp[b0j,b9z,Program.keyLits,underlying3,wx,wy]
 exact congrArg (Option.map fun ls=>Lit.string (keyBytes ls)) hk
theorem a3p {v:Value}{l:Lit}(h:keyOf prog 122 v=some l):∃p,a7d p∧v=a4e p∧l=klS p:=by
 obtain⟨xs,L,rfl,hL,rfl⟩:=keyOf_top c0a h;obtain⟨n,hn⟩:∃n,prog.types.size=n+1:=⟨prog.types.size-1,by have h:0<prog.types.size:=of_decide_eq_true (by kernel_rfl);omega⟩;rw[hn] at hL;unfold Program.keyLits at hL;rw[underlying122] at hL;simp only[b0j] at hL;split at hL
 ·rename_i hc
  obtain⟨hlen,-⟩:=hc;obtain⟨l⟩:=xs;match l,hlen with
  |[a,b],_ =>
   simp[b9z] at hL;rcases ha:prog.keyLits (n+1) 3 [a] with _|La
   ·rw[ha] at hL;simp at hL
   ·obtain⟨x,ex,fx,rfl⟩:=b0i n [a] La ha
    rcases hb:prog.keyLits (n+1) 3 [b] with _|Lb
    ·rw[ha,hb] at hL;simp at hL
    ·obtain⟨y,ey,fy,rfl⟩:=b0i n [b] Lb hb
     rw[ha,hb] at hL;simp at hL ex ey;subst ex;subst ey;subst hL;exact⟨(x,y),⟨fx,fy⟩,rfl,rfl⟩
 ·cases hL
theorem c3q {p q:a0r}(hp:a7d p)(hq:a7d q)(h:klS p=klS q):p=q:=by
 have h1:=a1p hp;rw[h] at h1;have h2:=spotLaw.inj h1 (a1p hq);simp at h2;exact Prod.ext h2.1 h2.2
theorem c7f {p q:a0r}(hp:a7d p)(hq:a7d q):(klS p).sameKey (klS q)=decide (p=q):=by
 by_cases h:p=q
 ·subst h
  simp[WideAt.sameKey_self (spotLaw.key (a1p hp))]
 ·simp only[h,decide_false]
  cases hs:(klS p).sameKey (klS q)
  ·rfl
  ·exact absurd (c3q hp hq (WideAt.sameKey_eq hs)) h
/-! ### a map's content: a list of dots with their numbers,each dot once -/
def a6k (l:List (a0r×Int))(p:a0r):Option Int:=(l.find? fun e=>e.1==p).map (·.2)
def a9p (l:List (a0r×Int))(p:a0r):Bool:=l.any fun e=>e.1==p
def MapIs (W:World)(b n:Nat)(l:List (a0r×Int)):Prop :=
 ∃(D:DataW Unit),W.ownsMap prog 122 (plainElem prog 3) b n D∧(l.map (·.1)).Nodup∧(∀e∈l,a7d e.1) ∧
  ∀p,a7d p→has D (klS p)=a9p l p∧D.atKey (klS p) (.lit (.int .i64 0))= .lit (.int .i64 ((a6k l p).getD 0))
theorem MapIs.kept {W W':World}{b n:Nat}{l:List (a0r×Int)}{row:Option Nat}(h:MapIs W b n l)(hg:W.grownBy W' row)(hr:row≠some b):MapIs W' b n l:=by
 obtain⟨D,ho,h1,h2,h3⟩:=h;exact⟨D,ho.kept hg (fun e=>hr e.symm),h1,h2,h3⟩
theorem MapIs.lt {W:World}{b n:Nat}{l:List (a0r×Int)}(h:MapIs W b n l):b<W.heap.size:=by
 obtain⟨D,ho,-⟩:=h;exact ho.lt
theorem MapIs.alloc {W:World}{b n:Nat}{l:List (a0r×Int)}(h:MapIs W b n l)(o:Obj):MapIs (W.alloc o) b n l:=h.kept (World.grownBy_alloc W o none) (by simp)
theorem MapIs.below {W W':World}{b n n₀:Nat}{l:List (a0r×Int)}(h:MapIs W b n l)(hb:Below n₀ W W')(hB:b<n₀):MapIs W' b n l:=by
 obtain⟨D,⟨es,clock,he,r⟩,h1,h2,h3⟩:=h;exact⟨D,⟨es,clock,(hb.block b hB).trans he,r⟩,h1,h2,h3⟩
theorem MapIs.made (W:World):MapIs (W.alloc (.map #[] 0)) W.heap.size 0 [] :=
 ⟨.map [],World.ownsMap_made W _ _ _,by simp,by simp,fun p _=>⟨rfl,rfl⟩⟩
def b3p (l:List (a0r×Int))(p:a0r)(x:Int):List (a0r×Int):=if a9p l p then l.map (fun e=>if e.1==p then (p,x) else e) else l++[(p,x)]
theorem a2m {l:List (a0r×Int)}{p:a0r}:a9p l p=true↔p∈l.map (·.1):=by
 unfold a9p;rw[List.any_eq_true];constructor
 ·rintro⟨e,he,h⟩
  exact List.mem_map.2 ⟨e,he,by simpa using h⟩
 ·intro h
  obtain⟨e,he,h⟩:=List.mem_map.1 h;exact⟨e,he,by simpa using h⟩
theorem a5n (l:List (a0r×Int))(p:a0r)(x:Int):(b3p l p x).map (·.1)=if a9p l p then l.map (·.1) else l.map (·.1)++[p]:=by
 unfold b3p;split
 ·rw[List.map_map]
  refine List.map_congr_left fun e _=> ?_
  by_cases h:e.1=p
  ·simp[h]
  ·simp[h]
 ·simp
theorem c0b (l:List (a0r×Int))(p q:a0r)(x:Int):a9p (b3p l p x) q=(decide (q=p)||a9p l q):=by
 rw[Bool.eq_iff_iff,a2m,a5n,Bool.or_eq_true,decide_eq_true_iff];rw[show (a9p l q=true)=(q∈l.map (·.1)) from propext a2m];split
 ·rename_i h
  have:=a2m.1 h;constructor
  ·exact .inr
  ·rintro (rfl|h')
   ·exact this
   ·exact h'
 ·simp[or_comm]
theorem b3q (l:List (a0r×Int))(p q:a0r)(x:Int):a6k (b3p l p x) q=if q=p then some x else a6k l q:=by
 unfold b3p;split
 ·rename_i h
  unfold a9p at h;induction l with
  |nil=>simp at h
  |cons e l ih =>
   by_cases he:e.1=p
   ·by_cases hq:q=p
    ·subst hq;simp[a6k,he]
    ·have hne:¬p=q:=fun h=>hq h.symm
     have:∀l:List (a0r×Int),a6k (l.map fun e=>if e.1==p then (p,x) else e) q=a6k l q:=by
      intro l;induction l with
      |nil=>rfl
      |cons a l ih2 =>
       unfold a6k at ih2 ⊢;by_cases ha:a.1=p
       ·simp only[List.map_cons,ha,beq_self_eq_true,if_true,List.find?_cons]
        have h1:(p==q)=false:=by simpa using hne
        rw[h1];have h2:(a.1==q)=false:=by rw[ha];exact h1
        simp only[ha] at h2;simpa [ha,h1] using ih2
       ·have h1:(a.1==p)=false:=by simpa using ha
        simp only[List.map_cons,h1,List.find?_cons,Bool.false_eq_true,if_false]
        cases hh:a.1==q
        ·exact ih2
        ·rfl
     rw[this,if_neg hq]
   ·have h':l.any (fun e=>e.1==p)=true:=by simpa [he] using h
    have ih:=ih h';unfold a6k at ih ⊢;have h1:(e.1==p)=false:=by simpa using he
    simp only[List.map_cons,h1,List.find?_cons,Bool.false_eq_true,if_false]
    cases hh:e.1==q
    ·exact ih
    ·have:e.1=q:=by simpa using hh
     have hq:¬q=p:=fun h=>he (this.trans h)
     simp[hq]
 ·rename_i h
  unfold a6k;rw[List.find?_append];by_cases hq:q=p
  ·subst hq
   have:l.find? (fun e=>e.1==q)=none:=by
    rw[List.find?_eq_none];intro e he hh;exact h (by unfold a9p;exact List.any_eq_true.2 ⟨e,he,hh⟩)
   simp[this]
  ·have h1:(p==q)=false:=by simpa using fun e=>hq e.symm
   simp[h1,hq]
theorem MapIs.store {W W':World}{b n:Nat}{l:List (a0r×Int)}{D:DataW Unit}{p:a0r}{x:Int}(hD:IsMap D)(h1:(l.map (·.1)).Nodup)(h2:∀e∈l,a7d e.1)
 (h3:∀p,a7d p→has D (klS p)=a9p l p∧D.atKey (klS p) (.lit (.int .i64 0))= .lit (.int .i64 ((a6k l p).getD 0))) (hp:a7d p)
 (ho:W'.ownsMap prog 122 (plainElem prog 3) b n (D.put (klS p) (.lit (.int .i64 x)))):MapIs W' b n (b3p l p x):=by
 refine⟨_,ho,?_,?_,fun q hq=> ?_⟩
 ·rw[a5n]
  split
  ·exact h1
  ·rename_i h
   rw[List.nodup_append];refine⟨h1,by simp,fun a ha c hc=> ?_⟩;obtain rfl:c=p:=by simpa using hc
   exact fun e=>h (a2m.2 (e▸ha))
 ·intro e he
  have:e.1∈(b3p l p x).map (·.1):=List.mem_map.2 ⟨e,he,rfl⟩;rw[a5n] at this;split at this
  ·obtain⟨e',he',h⟩:=List.mem_map.1 this
   rw[←h];exact h2 e' he'
  ·rcases List.mem_append.1 this with h|h
   ·obtain⟨e',he',h⟩:=List.mem_map.1 h
    rw[←h];exact h2 e' he'
   ·rw[show e.1=p by simpa using h];exact hp
 ·have hk:=spotLaw.key (a1p hp)
  rw[c0b,b3q];by_cases hqp:q=p
  ·subst hqp
   simp[has_put_same hD hk,atKey_put_same hD hk]
  ·have hne:klS q≠klS p:=fun e=>hqp (c3q hq hp e)
   simp[has_put_other hne,atKey_put_other hne,hqp,h3 q hq]
end
section
open Go.RowKit Go.Shelf
theorem c3r {β:Type}(B:Nat)(t:TypeId)(f:β→Array Value):Own (fun s W=>Blk W B (f s) t):=fun s X Y row hs hg hrow =>
 hs.kept hg (fun e'=>by obtain⟨o,ho,hc⟩:=hrow B e';rw[show X.heap[B]? =_ from hs] at ho;cases ho;cases hc)
theorem b3r {W:World}{base:Nat}{e:TypeId}{size:Nat}{v:Value}{k:Nat}{xs:List Value}(h:W.ownsRow base e size v k xs):∀(j:Nat)(o:Obj),v.ownBlock=some j→W.heap[j]? =some o→o.isCells=true:=by
 intro j o hj ho;rcases h.2 with ⟨rfl,_⟩|⟨g,cap,cur,rfl,_,hgb,_⟩
 ·simp[Value.ownBlock] at hj
 ·have:g=j:=by simpa [Value.ownBlock] using hj
  subst this;rw[hgb] at ho;cases ho;rfl
end
section
open Go.RowKit Go.Shelf
attribute [local go_sem] Oper.semAt_some
theorem c7g:(prog.info? 122).map (fun i=>(i.zero,i.size,i.bytes))=some (some (.agg #[.int .i64 0,.int .i64 0]),2,16):=by kernel_rfl
structure ApI (w:World)(B:Nat)(pre:List a0r)(W:World):Prop where
 box:∃v,Blk W B #[v] 188∧W.ownsRow w.heap.size 122 2 v pre.length (pre.flatMap b7v)∧(v= .slice none 0 0↔pre=[])
 below:Below w.heap.size w W
theorem d0s (w:World)(B B':Nat)(hB:w.heap.size≤B'):OwnFrom B' (ApI w B):=fun s X Y row hs hg hr=>by
 obtain⟨v,hb,hrow,hn⟩:=hs.box;exact⟨⟨v,hb.kept hg (fun e'=>by obtain⟨-,o,ho,hc⟩:=hr B e';rw[show X.heap[B]? =_ from hb] at ho;cases ho;cases hc),
  a0x hrow hg (fun r e=>by obtain⟨-,o,ho,hc⟩:=hr r e;exact⟨o,ho,fun cur e=>by subst e;cases hc⟩),hn⟩,hs.below.grown hg hs.below.size (fun k e=>Nat.le_trans hB (hr k e).1)⟩
theorem b5t (F:Fence)(n:Nat)(hf:F.fn 179)(hro:F.round=none)(hn:2≤n)(g:Nat)(lb:Array Value)(hFg:F.fn g)(eg:∀args w,(callFunc g args).run prog w= .ok (.enter g args) w)
 (S Sp:List a0r→Prop) (N:Nat) (hN:N≤4294967296) (w:World) (hseq:SeqStopsK F (n-1) prog g lb (fun x:a0r=> #[a4e x]) KeepsWalks S Sp N w) :
 CallsIn F n prog 179 #[.slice none 0 0,.func (.func g) #[] lb] w fun e w'=>∃v ss,e= .returned v∧S ss∧w'.ownsRow w.heap.size 122 2 v ss.length (ss.flatMap b7v)∧(v= .slice none 0 0↔ss=[])∧Below w.heap.size w w':=by
 have h1:1≤n:=by omega
 obtain⟨i0,hi0,hz0,hz1,hz2⟩:=info_parts c7g;refine callsIn_of_wp_marks func179 rfl hf ?_ hro;simp only[ntmps179,List.size_toArray,List.length_cons,List.length_nil,Nat.reduceAdd,Nat.reduceSub,Array.replicate_succ,Array.replicate_zero,List.push_toArray,List.append_toArray,List.nil_append,List.cons_append];gi_wp2;have bS:=Blk.new w #[.slice none 0 0] 188;obtain⟨W0,hW0⟩:∃W0,w.alloc (.cells #[.slice none 0 0] 188)=W0:=⟨_,rfl⟩;have hB0:Below w.heap.size w W0:=by rw[←hW0];exact zC
 have hsz:W0.heap.size=w.heap.size+1:=by rw[←hW0];simp
 rw[hW0] at bS ⊢;clear hW0;refine wpIn_rangeFunc_ownH hro h1 (gf:=g) (lb:=lb) rfl hFg eg hseq walksK_t walksK_b hB0 (fun _=>rfl)
  (ApI w w.heap.size) (fun _ _ _=>False)
  (d0s w _ _ (by omega)) (fun c=>ownFrom_pure _ _)
  ⟨⟨_,bS,⟨rfl,.inl ⟨rfl,rfl⟩⟩,by simp⟩,hB0⟩
  (fun x a' W=>∃Bx,w.heap.size<Bx∧Blk W Bx #[.int .i64 x.1,.int .i64 x.2] 122∧a'={ tmps:= #[.slice none 0 0,.func (.func g) #[] lb,.pointer (some ⟨w.heap.size,0,none⟩),undef,.slice none 0 0,.pointer (some ⟨Bx,0,none⟩),.func (.func g) #[] lb,a4e x,undef,undef,undef,undef,undef],defers:=[] })
  (fun x a' _ X Y row hs hg hr=>by obtain⟨Bx,h1,h2,h3⟩:=hs;exact⟨Bx,h1,c3r Bx 122 (fun (_:Unit)=> #[Value.int .i64 x.1,Value.int .i64 x.2]) () X Y row h2 hg (fun r e=>(hr r e).2),h3⟩)
  ?assign ?body ?done ?stop
 case assign =>
  rintro l pre x W K⟨⟨v,bS1,hrow,hnl⟩,hB1⟩ hK;gi_wp2;have hlt:=bS1.lt;exact hK _ _ ((KeepsOthers.alloc _ _).from _) (KeepsWalks.alloc _ _) ⟨⟨v,bS1.alloc _,hrow.alloc _,hnl⟩,hB1.alloc hB1.size _⟩ ⟨W.heap.size,by omega,Blk.new W _ _,rfl⟩
 case body =>
  rintro l pre x a' W hl⟨r,hr⟩ ⟨⟨v,bS1,hrow,hnl⟩,hB1⟩ ⟨Bx,hBx,bX,rfl⟩ hlt;have cS:W.cell? ⟨w.heap.size,0,none⟩=some v:=bS1.cell 0;have fS:=bS1.frozen 0;have cX0:W.cell? ⟨Bx,0,none⟩=some (.int .i64 x.1):=bX.cell 0;have cX1:W.cell? ⟨Bx,1,none⟩=some (.int .i64 x.2):=bX.cell 1;obtain⟨x0,x1⟩:=x;simp only at cX0 cX1;have hne:188≠122:=by decide
  have hne2:=a0s (hrow.alloc (.cells #[.int .i64 x0,.int .i64 x1] 122)) (bS1.alloc _) hne;have hsW:=hB1.size;have hnews:∀j u,(b7v (x0,x1))[j]? =some u→(W.alloc (.cells #[.int .i64 x0,.int .i64 x1] 122)).cell? ((⟨W.heap.size,0,none⟩:Addr).add j)=some u:=fun j u hj=>by
   have hb:=(Blk.new W #[.int .i64 x0,.int .i64 x1] 122).cell j;rw[Go.WideShapes.add_plain,Nat.zero_add,hb];match j,hj with
   |0,hj=>exact hj
   |1,hj=>exact hj
   |j+2,hj=>simp at hj
  have h1c:∀u∈b7v (x0,x1),u.oneCell'=true:=by simp[Value.oneCell']
  gi_wp2_with (first|(gi_at_builtin;refine wpListIn_append_own _ (by rfl) _ _ 188 (by rfl) w.heap.size 122 i0 _ 2 16 underlying188 hi0 hz0 hz1 hz2 (by rfl) (by decide) v pre.length _ (by rfl) (hrow.alloc _) ⟨W.heap.size,0,none⟩ 1 1 (b7v (x0,x1)) (by rfl) (by rfl) hnews h1c (by unfold maxLen;omega) (by omega) (by simp;omega) ?_;intro v' w3 hown' hg3 hnil3;have bS3:=(bS1.alloc (.cells #[.int .i64 x0,.int .i64 x1] 122)).kept hg3 hne2;have cS3:w3.cell? ⟨w.heap.size,0,none⟩=some v:=bS3.cell 0;have fS3:=bS3.frozen 0;obtain⟨g',cap',rfl⟩:∃g' cap',v'= .slice (some ⟨g',0,none⟩) (pre.length+1) cap':=(by rcases hown'.2 with ⟨_,h0⟩|⟨g',cap',cur',e',_⟩;exact absurd h0 (by omega);exact⟨g',cap',e'⟩);go_frame)|gi_in)
  have hko:KeepsOthers W (w3.setCell ⟨w.heap.size,0,none⟩ (.slice (some ⟨g',0,none⟩) (pre.length+1) cap')) :=
   (KeepsOthers.alloc _ _).trans ((KeepsOthers.of_grownBy hg3 (b3r (hrow.alloc _))).trans (KeepsOthers.setCell _ _ _))
  have hB3:Below w.heap.size w w3:=(hB1.alloc hsW _).grown hg3 (by simp;omega) (fun k e=>(hrow.lt k e).1);refine⟨hko.from _,hko.walks,⟨⟨_,by have:=bS3.set 0 (.slice (some ⟨g',0,none⟩) (pre.length+1) cap');simpa using this,?_,by simp⟩,hB3.setCell (p:=⟨w.heap.size,0,none⟩) (yR _) _⟩⟩;have:=hown'.kept (grownBy_setCell' w3 w.heap.size (.slice (some ⟨g',0,none⟩) (pre.length+1) cap')) (.inr (a0s hown' bS3 hne));simpa using this
 case done =>
  rintro D ys W hD hS⟨⟨v,bS1,hrow,hnl⟩,hB1⟩ hK;have cS:W.cell? ⟨w.heap.size,0,none⟩=some v:=bS1.cell 0;have fS:=bS1.frozen 0;gi_wp2;refine⟨by simp,.inl ⟨_,_,rfl,run_takeDeferred hK,?_⟩⟩;exact⟨_,results_tmp rfl _ _ _,v,ys,rfl,hS,a0x hrow (grownBy_putObj' _ _ _) (fun r e=>by cases e;exact⟨_,hK,fun cur e=>by cases e⟩),hnl,hB1.grown (grownBy_putObj' _ _ _) hB1.size (fun k e=>by cases e;omega)⟩
 case stop =>
  rintro D c pre W hD hS hF hK;exact hF.elim
theorem b2m (F:Fence)(n:Nat)(hf:F.fn 160)(hf2:F.fn 179)(hro:F.round=none)(hn:3≤n)(g:Nat)(lb:Array Value)(hFg:F.fn g)(eg:∀args w,(callFunc g args).run prog w= .ok (.enter g args) w)
 (S Sp:List a0r→Prop) (N:Nat) (hN:N≤4294967296) (w:World) (hseq:SeqStopsK F (n-1-1) prog g lb (fun x:a0r=> #[a4e x]) KeepsWalks S Sp N w) :
 CallsIn F n prog 160 #[.func (.func g) #[] lb] w fun e w'=>∃v ss,e= .returned v∧S ss∧w'.ownsRow w.heap.size 122 2 v ss.length (ss.flatMap b7v)∧(v= .slice none 0 0↔ss=[])∧Below w.heap.size w w':=by
 have h1:1≤n:=by omega
 refine callsIn_of_wp func160 rfl hf ?_ hro;simp only[ntmps160,List.size_toArray,List.length_cons,List.length_nil,Nat.reduceAdd,Nat.reduceSub,Array.replicate_succ,Array.replicate_zero,List.push_toArray,List.append_toArray,List.nil_append,List.cons_append];gi_wp2_with (gi_at_call 179;refine (b5t F (n-1) hf2 hro (by omega) g lb hFg eg S Sp N hN _ hseq).mono ?_;rintro e w'⟨v,ss,rfl,hS,hrow,hnl,hb⟩)
 go_ret;exact⟨v,ss,rfl,hS,hrow,hnl,hb⟩
end
section
open Go.RowKit Go.Shelf Go.Maps
attribute [local go_sem] Oper.semAt_some
attribute [local go_sem ↓] Go.wp_at_zero Go.wp_at_succ
theorem b0k (w:World):(zeroValue 3).run prog w= .ok (.int .i64 0) w:=by kernel_rfl
end
end Go.Proofs.YtfocdbjceedagaaGreatDoor
