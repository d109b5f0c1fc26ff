/-
  Parts.
-/
import Derived.Test.YtfocdbjceedagaaGreatDoorYad
import Derived.Test.YtfocdbjceedagaaGreatDoorYaf
import Derived.Shelf.SlSortCmp.QuietGrown
set_option linter.unusedVariables false
set_option linter.unusedSimpArgs false
set_option maxHeartbeats 4000000
set_option maxRecDepth 100000
namespace Go.Proofs.YtfocdbjceedagaaGreatDoor
open Tryz
section
open Go.RowKit Go.Shelf
attribute [local go_sem] Oper.semAt_some
def c1q (s:Sh)(x:Int):Int:=(x-s.ax) / s.st
def c1r (s:Sh)(y:Int):Int:=(y-s.ay) / s.st
def onS (s:Sh)(i j:Int):Bool:=inR 0 i (s.w-1)&&inR 0 j (s.h-1)
structure OkS (s:Sh):Prop where
 st0:1≤s.st
 st1:s.st≤1024
 w0:1≤s.w
 w1:s.w≤80
 h0:1≤s.h
 h1:s.h≤80
 x0 : -16384≤s.ax
 x1:s.ax≤16384
 y0 : -16384≤s.ay
 y1:s.ay≤16384
theorem a3h {x y:Int}:a2b x y=true↔(-16384≤x∧x≤16384) ∧ -16384≤y∧y≤16384:=by simp[a2b]
theorem a5h {s:Sh}(h:a1w s=0):OkS s:=by
 unfold a1w at h;split at h
 ·rename_i h1
  split at h
  ·rename_i h2
   simp only[Bool.and_eq_true,b0j,a3h] at h1 h2;exact⟨by omega,by omega,by omega,by omega,by omega,by omega,by omega,by omega,by omega,by omega⟩
  ·omega
 ·omega
theorem a9u {a b r:Int}(hr:a / b=r)(w:World)(hb:0<b)(h0 : -4611686018427387904≤a)(h1:a≤4611686018427387904) :
 Calls prog 140 #[.int .i64 a,.int .i64 b] w fun e w'=>e= .returned (.int .i64 r)∧w=w':=by
 have h:=c3w a b w hb h0 h1;rw[hr] at h;exact h
theorem c4b (s:Sh)(x y i j:Int)(w:World)(hi:c1q s x=i)(hj:c1r s y=j)(hs:OkS s)(x0 : -1048576≤x)(x1:x≤1048576)(y0 : -1048576≤y)(y1:y≤1048576) :
 Calls prog 83 #[shV s,.agg #[.int .i64 x,.int .i64 y]] w fun e w'=>e= .returned (.agg #[.int .i64 i,.int .i64 j])∧Below w.heap.size w w':=by
 obtain⟨ax,ay,st,W,H,G⟩:=s;obtain⟨s0,s1,-,-,-,-,a0,a1,b0,b1⟩:=hs;simp only[c1q,c1r] at hi hj s0 s1 a0 a1 b0 b1;replace hi:=Lib.hid hi;replace hj:=Lib.hid hj;go_enter func83,ntmps83;go_wp2_with fail;first|with_reducible refine a0f 19 (by kernel_rfl) (by kernel_rfl) ?_|with_reducible refine a0h 19 (by kernel_rfl) (by kernel_rfl) ?_
 simp only[List.take_succ_cons,List.take_zero,List.drop_succ_cons,List.drop_zero];repeat (first|go_big_quiet_step ((go_at_call 140;exact Calls.grow_of_same (a9u (by first|with_reducible exact hi.out|with_reducible exact hj.out) _ (by omega) (by omega) (by omega))))|quiet_step ((go_at_call 140;exact Calls.grow_of_same (a9u (by first|with_reducible exact hi.out|with_reducible exact hj.out) _ (by omega) (by omega) (by omega)))))
 refine wpQuiet_nil ?_;intro _ hw_;obtain⟨p,hw_⟩:=hw_;subst hw_;go_wp2_with fail;exact bodyPost_ret (v:= .agg #[.int .i64 i,.int .i64 j]) (by simp[results,results83,go_sem]) rfl ⟨rfl,(by repeat' (first|with_reducible (first|exact zR _ _|exact yR _|assumption|refine zG ?_ ?_ _|refine zA ?_ ?_ _|refine zS ?_ ?_ _|refine zD ?_|refine yA ?_|refine yG ?_|refine yS ?_|refine yD ?_)|omega|(dsimp only;omega)))⟩
theorem b0k (s:Sh)(i j:Int)(b:Bool)(w:World)(hb:onS s i j=b)(hs:OkS s) :
 Calls prog 67 #[shV s,.agg #[.int .i64 i,.int .i64 j]] w fun e w'=>e= .returned (.bool b)∧Below w.heap.size w w':=by
 obtain⟨ax,ay,st,W,H,G⟩:=s;obtain⟨s0,s1,u0,u1,v0,v1,a0,a1,b0,b1⟩:=hs;simp only[onS] at hb u0 u1 v0 v1;obtain⟨c1,h1⟩:∃b,inR 0 i (W-1)=b:=⟨_,rfl⟩;obtain⟨c2,h2⟩:∃b,inR 0 j (H-1)=b:=⟨_,rfl⟩;rw[h1,h2] at hb;subst hb;replace h1:=Lib.hid h1;replace h2:=Lib.hid h2
 cases c1
 ·go_enter func67,ntmps67
  go_wp2_with (go_at_call 59;refine (a2f (by first|with_reducible exact h1.out) _).mono ?_;rintro e w'⟨rfl,rfl⟩);go_ret;exact⟨rfl,(by repeat' (first|with_reducible (first|exact zR _ _|exact yR _|assumption|refine zG ?_ ?_ _|refine zA ?_ ?_ _|refine zS ?_ ?_ _|refine zD ?_|refine yA ?_|refine yG ?_|refine yS ?_|refine yD ?_)|omega|(dsimp only;omega)))⟩
 ·go_enter func67,ntmps67
  go_wp2_with (go_at_call 59;refine (a2f (by first|with_reducible exact h1.out|with_reducible exact h2.out) _).mono ?_;rintro e w'⟨rfl,rfl⟩);go_ret;exact⟨rfl,(by repeat' (first|with_reducible (first|exact zR _ _|exact yR _|assumption|refine zG ?_ ?_ _|refine zA ?_ ?_ _|refine zS ?_ ?_ _|refine zD ?_|refine yA ?_|refine yG ?_|refine yS ?_|refine yD ?_)|omega|(dsimp only;omega)))⟩
def ofS (s:Sh)(x y:Int):Int×Int×Bool :=
 if a1w s=0∧a2b x y=true∧onS s (c1q s x) (c1r s y)=true then (c1q s x,c1r s y,true) else (0,0,false)
theorem a4x {s:Sh}{r:Int}(hr:a1w s=r)(w:World)(f0:a0i s.ax)(f1:a0i s.ay) :
 Calls prog 22 #[shV s] w fun e w'=>e= .returned (.int .i64 r)∧Below w.heap.size w w':=by
 have h:=c4a s w f0 f1;rw[hr] at h;exact h
theorem d0f (s:Sh)(x y:Int)(w:World)(f0:a0i s.ax)(f1:a0i s.ay) :
 Calls prog 62 #[shV s,.agg #[.int .i64 x,.int .i64 y]] w fun e w'=>e= .returned (.tuple #[.int .i64 (ofS s x y).1,.int .i64 (ofS s x y).2.1,.bool (ofS s x y).2.2])∧Below w.heap.size w w':=by
 by_cases hc:a1w s=0
 ·have hs:=a5h hc
  obtain⟨b1,h1⟩:∃b,a2b x y=b:=⟨_,rfl⟩;obtain⟨i,hi⟩:∃i,c1q s x=i:=⟨_,rfl⟩;obtain⟨j,hj⟩:∃j,c1r s y=j:=⟨_,rfl⟩;obtain⟨b2,h2⟩:∃b,onS s i j=b:=⟨_,rfl⟩;have hr:ofS s x y=if b1=true∧b2=true then (i,j,true) else (0,0,false):=by
   unfold ofS;simp only[hc,h1,hi,hj,h2,true_and]
  rw[hr];clear hr;replace hc:=Lib.hid hc
  cases b1 with
  |false =>
   replace h1:=Lib.hid h1;replace hi:=Lib.hid hi;replace hj:=Lib.hid hj;obtain⟨ax,ay,st,W,H,G⟩:=s;clear h2;have hre:(if false=true∧b2=true then (i,j,true) else (0,0,false))=((0,0,false):Int×Int×Bool):=by simp
   rw[hre];clear hre;go_enter func62,ntmps62;go_wp2_with (first|(go_at_call 22;refine (a4x hc.out _ f0 f1).mono ?_;rintro e w'⟨rfl,hb_⟩;obtain⟨p,rfl⟩:=a0c hb_;clear hb_)|(go_at_call 60;refine (a6b h1.out _).mono ?_;rintro e w'⟨rfl,hb_⟩;obtain⟨p,rfl⟩:=a0c hb_;clear hb_));exact bodyPost_ret (v:= .tuple #[.int .i64 0,.int .i64 0,.bool false]) (by simp[results,results62,go_sem]) rfl ⟨rfl,(by repeat' (first|with_reducible (first|exact zR _ _|exact yR _|assumption|refine zG ?_ ?_ _|refine zA ?_ ?_ _|refine zS ?_ ?_ _|refine zD ?_|refine yA ?_|refine yG ?_|refine yS ?_|refine yD ?_)|omega|(dsimp only;omega)))⟩
  |true =>
   obtain⟨⟨x0,x1⟩,y0,y1⟩:=a3h.1 h1;replace h1:=Lib.hid h1;replace hi:=Lib.hid hi;replace hj:=Lib.hid hj;replace h2:=Lib.hid h2;obtain⟨ax,ay,st,W,H,G⟩:=s
   cases b2 <;>
   ·go_enter func62,ntmps62
    go_wp2_with (first|(go_at_call 22;refine (a4x hc.out _ f0 f1).mono ?_;rintro e w'⟨rfl,hb_⟩;obtain⟨p,rfl⟩:=a0c hb_;clear hb_)|(go_at_call 60;refine (a6b h1.out _).mono ?_;rintro e w'⟨rfl,hb_⟩;obtain⟨p,rfl⟩:=a0c hb_;clear hb_)|(go_at_call 83;refine (c4b ⟨ax,ay,st,W,H,G⟩ x y i j _ hi.out hj.out hs (by omega) (by omega) (by omega) (by omega)).mono ?_;rintro e w'⟨rfl,hb_⟩;obtain⟨p,rfl⟩:=a0c hb_;clear hb_)|(go_at_call 67;refine (b0k ⟨ax,ay,st,W,H,G⟩ i j _ _ h2.out hs).mono ?_;rintro e w'⟨rfl,hb_⟩;obtain⟨p,rfl⟩:=a0c hb_;clear hb_));first
     |exact bodyPost_ret (v:= .tuple #[.int .i64 0,.int .i64 0,.bool false]) (by simp[results,results62,go_sem]) rfl ⟨rfl,(by repeat' (first|with_reducible (first|exact zR _ _|exact yR _|assumption|refine zG ?_ ?_ _|refine zA ?_ ?_ _|refine zS ?_ ?_ _|refine zD ?_|refine yA ?_|refine yG ?_|refine yS ?_|refine yD ?_)|omega|(dsimp only;omega)))⟩
     |skip
    all_goals
     first|with_reducible refine a0v (by kernel_rfl) (by kernel_rfl) ?_|with_reducible refine a1a (by kernel_rfl) (by kernel_rfl) ?_
     repeat (first|go_big_quiet_step (fail)|quiet_step (fail))
     refine wpQuiet_nil ?_;intro _ hw_;obtain⟨p,hw_⟩:=hw_;subst hw_;go_wp2_with fail;exact bodyPost_ret (v:= .tuple #[.int .i64 i,.int .i64 j,.bool true]) (by simp[results,results62,go_sem]) rfl ⟨rfl,(by repeat' (first|with_reducible (first|exact zR _ _|exact yR _|assumption|refine zG ?_ ?_ _|refine zA ?_ ?_ _|refine zS ?_ ?_ _|refine zD ?_|refine yA ?_|refine yG ?_|refine yS ?_|refine yD ?_)|omega|(dsimp only;omega)))⟩
 ·have hr:ofS s x y=(0,0,false):=by unfold ofS;rw[if_neg (fun h=>hc h.1)]
  rw[hr];clear hr;obtain⟨c,hcc⟩:∃c,a1w s=c:=⟨_,rfl⟩;rw[hcc] at hc;replace hcc:=Lib.hid hcc;obtain⟨ax,ay,st,W,H,G⟩:=s;go_enter func62,ntmps62;go_wp2_with (go_at_call 22;refine (a4x hcc.out _ f0 f1).mono ?_;rintro e w'⟨rfl,hb_⟩;obtain⟨p,rfl⟩:=a0c hb_;clear hb_);exact bodyPost_ret (v:= .tuple #[.int .i64 0,.int .i64 0,.bool false]) (by simp[results,results62,go_sem]) rfl ⟨rfl,(by repeat' (first|with_reducible (first|exact zR _ _|exact yR _|assumption|refine zG ?_ ?_ _|refine zA ?_ ?_ _|refine zS ?_ ?_ _|refine zD ?_|refine yA ?_|refine yG ?_|refine yS ?_|refine yD ?_)|omega|(dsimp only;omega)))⟩
end
section
open Go.RowKit Go.Shelf
attribute [local go_sem] Oper.semAt_some
attribute [local go_sem ↓] Go.wp_at_zero Go.wp_at_succ
theorem a1o {w w':World}(h:Below w.heap.size w w'):w.grownBy w' none:=⟨h.os,h.tape,h.output,h.size,fun k hk _=>h.block k hk⟩
theorem a1k {W W':World}{base:Nat}{e:TypeId}{size:Nat}{v:Value}{k:Nat}{xs:List Value}(h:W.ownsRow base e size v k xs)(hb:Below W.heap.size W W'):W'.ownsRow base e size v k xs:=a0w h (a1o hb) (fun r e=>by cases e)
end
section
open Go.RowKit Go.Shelf Go.Maps
attribute [local go_sem] Oper.semAt_some
attribute [local go_sem ↓] Go.wp_at_zero Go.wp_at_succ
theorem b0l (w:World):(zeroValue 3).run prog w= .ok (.int .i64 0) w:=by kernel_rfl
end
section
open Go.RowKit Go.Shelf Go.Sort Go.Lib
attribute [local go_sem] Oper.semAt_some
def c9s (p q:a0o):Int:=if compareInt p.2 q.2=0 then compareInt p.1 q.1 else compareInt p.2 q.2
theorem c0f {a b:Int}:compareInt a b<0↔a<b:=by
 unfold compareInt;split
 ·simp;assumption
 ·split <;> simp <;> omega
theorem c0g {a b:Int}:compareInt a b=0↔a=b:=by
 unfold compareInt;split
 ·simp;omega
 ·split <;> simp <;> omega
def ltS (p q:a0o):Bool:=decide (p.2<q.2)||(decide (p.2=q.2)&&decide (p.1<q.1))
theorem a7k (p q:a0o):ltOf c9s p q=ltS p q:=by
 unfold ltOf c9s ltS;by_cases h:p.2=q.2
 ·rw[if_pos (c0g.2 h)]
  simp[h,c0f]
 ·rw[if_neg (fun e=>h (c0g.1 e))]
  simp[h,c0f]
theorem d4n:SWO (ltOf c9s) where
 irrefl x:=by rw[a7k];simp[ltS]
 trans x y z h1 h2:=by rw[a7k] at *;simp[ltS] at *;omega
 ntrans x y z h1 h2:=by rw[a7k] at *;simp[ltS] at *;omega
theorem a6i {P:Program}{id:Nat}{Q:Exit→Act→World→Prop}{a:Act}{w:World}{l:List Oper}(n:Nat)(hm:P.follows .mixedOrders=true)(hB:Region.lexTailB .any l.toArray n=true)
 (h:wpQuiet P l.toArray (fun w'=>∃p:GrownBy,w'=grow (w.drewN p.n) p.os) (fun a'=>∀w',(∃p:GrownBy,w'=grow (w.drewN p.n) p.os)→wpList P l.toArray Q (l.drop n) a' w') (l.take n) a):(Code.region id l.toArray true).wp P Q a w :=
 a4j n hm hB ⟨⟨1,#[]⟩,by rw[grow_empty];rfl⟩ h
theorem b5m (x y:Int)(r:Int)(hr:compareInt x y=r)(w:World)(n:Nat)(os:Array Obj) :
 Calls prog 105 #[.int .i64 x,.int .i64 y] (grow (w.drewN n) os) fun e w''=>e= .returned (.int .i64 r)∧∃p:GrownBy,w''=grow (w.drewN p.n) p.os :=
 (Go.Proofs.Tryz.cmp_Compare_int x y _).mono fun _ _ ⟨he,hw⟩=>⟨by rw[he,hr],⟨n,os⟩,by first|exact hw|exact hw.symm⟩
theorem c7g (p q:a0o)(w:World) :
 Calls prog 125 #[a4e p,a4e q] w fun e w'=>e= .returned (.int .i64 (c9s p q))∧∃m os',w'=grow (w.drewN m) os':=by
 obtain⟨px,py⟩:=p;obtain⟨qx,qy⟩:=q;obtain⟨r,hr⟩:∃r,c9s (px,py) (qx,qy)=r:=⟨_,rfl⟩;rw[hr];unfold c9s at hr;simp only at hr;obtain⟨c1,h1⟩:∃c,compareInt py qy=c:=⟨_,rfl⟩;obtain⟨c2,h2⟩:∃c,compareInt px qx=c:=⟨_,rfl⟩;rw[h1,h2] at hr;replace h1:=Lib.hid h1;replace h2:=Lib.hid h2;replace hr:=Lib.hid hr;go_enter func125,ntmps125;go_wp2_with fail;obtain⟨W,hW⟩:∃W,(w.alloc (.cells #[.int .i64 px,.int .i64 py] 122)).alloc (.cells #[.int .i64 qx,.int .i64 qy] 122)=W:=⟨_,rfl⟩;have k1:=(Blk.new w #[.int .i64 px,.int .i64 py] 122).alloc (.cells #[.int .i64 qx,.int .i64 qy] 122);have k2:=Blk.new (w.alloc (.cells #[.int .i64 px,.int .i64 py] 122)) #[.int .i64 qx,.int .i64 qy] 122;simp only[World.size_alloc] at k2;rw[hW] at k1 k2 ⊢;have f0:=fun n os=>cell_grown (a:=⟨w.heap.size,0,none⟩) k1.lt (k1.cell 0) n os
 have f1:=fun n os=>cell_grown (a:=⟨w.heap.size,1,none⟩) k1.lt (k1.cell 1) n os
 have f2:=fun n os=>cell_grown (a:=⟨w.heap.size+1,0,none⟩) k2.lt (k2.cell 0) n os
 have f3:=fun n os=>cell_grown (a:=⟨w.heap.size+1,1,none⟩) k2.lt (k2.cell 1) n os
 simp at f0 f1 f2 f3;replace hW:=Lib.hid hW;refine a6i 10 (by kernel_rfl) (by kernel_rfl) ?_;simp only[List.take_succ_cons,List.take_zero,List.drop_succ_cons,List.drop_zero];repeat (first|go_big_quiet_step ((go_at_call 105;exact b5m _ _ _ (by first|with_reducible exact h1.out|with_reducible exact h2.out) _ _ _))|quiet_step ((go_at_call 105;exact b5m _ _ _ (by first|with_reducible exact h1.out|with_reducible exact h2.out) _ _ _)))
 refine wpQuiet_nil ?_;intro X hw_;obtain⟨⟨nq,osq⟩,hw_⟩:=hw_;replace hw_:=Lib.hid hw_;clear f0 f1 f2 f3 k1 k2;go_wp2_with (go_at_call 104;refine (c3p _ _ _ hr.out _ _ (by simp) (by simp)).mono ?_;rintro e w'⟨rfl,rfl⟩);go_ret;refine⟨rfl,nq,#[Obj.cells #[.int .i64 px,.int .i64 py] 122]++ #[Obj.cells #[.int .i64 qx,.int .i64 qy] 122]++osq++ #[Obj.cells #[.int .i64 c1,.int .i64 c2] 3],?_⟩;rw[hw_.out,←hW.out];simp only[alloc_eq_grow,grow_grow];show grow (grow (w.drewN nq) _) _=_;rw[grow_grow,Array.append_assoc,Array.append_assoc,Array.append_assoc]
theorem c7h (blk off size:Nat)(w:World):CmpLays prog 125 #[] b2b 2 c9s blk off size w:=fun _ _ _ _ x y=>c7g x y _
theorem d1y:∀(ss:List a0o)(j:Nat),j<ss.length*2→(ss.flatMap b2b)[j]? =some ((b2b ss.toArray[j / 2]!)[j % 2]!)
 |[],j,h=>by simp at h
 |p::ss,0,_=>by simp
 |p::ss,1,_=>by simp
 |p::ss,j+2,h=>by
  have ih:=d1y ss j (by simp at h;omega);have e1:(j+2) / 2=j / 2+1:=by omega
  have e2:(j+2) % 2=j % 2:=by omega
  rw[e1,e2];have hl:j / 2<ss.length:=by simp at h;omega
  have e3:(p::ss).toArray[j / 2+1]! =ss.toArray[j / 2]! :=by
   rw[getElem!_pos _ _ (by simpa using hl),getElem!_pos _ _ (by simpa using hl)];simp
  rw[e3,←ih];simp[List.flatMap_cons]
def RowS (n₀:Nat)(W:World)(v:Value)(ss:List a0o):Prop :=
 (v= .slice none 0 0∧ss=[])∨∃g cap,v= .slice (some ⟨g,0,none⟩) ss.length cap∧n₀≤g∧g<W.heap.size∧∀j,(h:j<ss.length)→W.cell? ⟨g,j*2,none⟩=some (.int .i64 ss[j].1)∧W.cell? ⟨g,j*2+1,none⟩=some (.int .i64 ss[j].2)
def leS (x y:a0o):Bool:= !ltS y x
def a2r (en:List (a0o×Int)):List a0o:=(en.map (·.1)).mergeSort leS
theorem b2o {en:List (a0o×Int)}{ss:List a0o}(hn:(en.map (·.1)).Nodup)(h1:ss.Nodup)(h2:∀p,p∈ss↔p∈en.map (·.1)):ss.Perm (a2r en) :=
 ((List.perm_ext_iff_of_nodup h1 hn).2 h2).trans (List.mergeSort_perm _ _).symm
theorem b5n (a b c:a0o)(h1:leS a b=true)(h2:leS b c=true):leS a c=true:=by simp[leS,ltS] at *;omega
theorem b5o (a b:a0o):(leS a b||leS b a)=true:=by simp[leS,ltS];omega
theorem c7i (a b:a0o)(h1:leS a b=true)(h2:leS b a=true):a=b:=by
 simp[leS,ltS] at h1 h2;exact Prod.ext (by omega) (by omega)
theorem b2p {en:List (a0o×Int)}{d:List a0o}(hp:d.Perm (a2r en))(hs:d.Pairwise (fun a b=>leS a b=true)):d=a2r en :=
 List.Perm.eq_of_pairwise (le:=fun a b=>leS a b=true) (fun a b _ _=>c7i a b) hs (List.pairwise_mergeSort b5n b5o _) hp
theorem a2x (en:List (a0o×Int)):(a2r en).length=en.length:=by unfold a2r;rw[List.length_mergeSort,List.length_map]
theorem b5p (base:Nat)(v:Value)(ss:List a0o)(en:List (a0o×Int))(w:World)(hrow:w.ownsRow base 122 2 v ss.length (ss.flatMap b2b))(hnn:ss≠[])(hp:ss.Perm (a2r en))(hlen:ss.length≤4294967296) :
 Calls prog 161 #[v,.func (.func 125) #[] #[]] w fun e w'=>e= .returned (.tuple #[])∧RowS base w' v (a2r en)∧Below base w w':=by
 have hl0:0<ss.length:=List.length_pos_iff.2 hnn;rcases hrow.2 with ⟨_,h0⟩|⟨g,cap,cur,rfl,hbase,hgb,hr1,hr2,hr3,hr4⟩
 ·omega
 have hg:g<w.heap.size:=(Array.getElem?_eq_some_iff.1 hgb).1;have hH:HoldsK b2b 2 w g 0 ss.toArray:=by
  intro j hj;rw[size_flatK,List.size_toArray] at hj;refine⟨?_,hrow.frozenAt (0+j)⟩;rw[get_flatK _ _ _ _ (by simpa using hj),Nat.zero_add];exact (hrow.cellAt j (by omega)).trans (d1y ss j hj)
 have eg:∀args w,(callFunc 125 args).run prog w= .ok (.enter 125 args) w:=enters_of func125 (by kernel_rfl) rfl;have hcon:=AnyQ.slices_SortFunc Go.Proofs.Tryz.sortSpot 2 isAgg122 sizeOf122 b2b (fun _=>rfl) (fun x v hv=>by simp at hv;rcases hv with rfl|rfl <;> rfl) c9s d4n 125 #[] g 0 cap ss.toArray w eg (c7h g 0 ss.toArray.size w) hH hg (by simp;omega);change Calls prog 161 _ _ _ at hcon;rw[List.size_toArray] at hcon;refine hcon.mono ?_;rintro e w'⟨rfl,d',n,os,hperm,hsort,rfl⟩;obtain⟨hsz,-,hpm⟩:=hperm;have hd:d'.toList=a2r en:=by
  refine b2p ?_ ?_
  ·have h1:d'.extract 0 ss.length=d':=by
    have:d'.size=ss.length:=by rw[hsz];simp
    rw[←this];exact Array.extract_size
   have h2:ss.toArray.extract 0 ss.length=ss.toArray:=by
    have:ss.toArray.size=ss.length:=by simp
    rw[←this];exact Array.extract_size
   rw[h1,h2] at hpm;exact hpm.trans hp
  ·rw[List.pairwise_iff_getElem]
   intro i j hi hj hij;have hj':j<d'.size:=by simpa using hj
   have hs:=hsort i j (Nat.zero_le _) hij (by rw[hsz] at hj';simpa using hj');rw[getElem!_pos d' j hj',getElem!_pos d' i (by omega),a7k] at hs;simp[leS,hs]
 have hH2:=holdsK_sortWorldK_c b2b 2 w g 0 ss.toArray d' n os hH hg (by rw[hsz]);refine⟨rfl,.inr ⟨g,cap,?_,hbase,?_,?_⟩,?_⟩
 ·rw[a2x]
  have:=hp.length_eq;rw[a2x] at this;rw[this]
 ·exact Nat.lt_of_lt_of_le hg (size_sortWorldK_c b2b 2 w g 0 n d' os)
 ·intro j hj
  have hjd:j<d'.size:=by rw[←Array.length_toList,hd];exact hj
  have c0:=(hH2.cell hjd (c:=0) (by omega)).1;have c1:=(hH2.cell hjd (c:=1) (by omega)).1;have he:d'[j]! =(a2r en)[j]:=by
   rw[getElem!_pos d' j hjd];simp only[←hd];rfl
  rw[he] at c0 c1;simp only[Nat.zero_add,Nat.add_zero] at c0 c1;exact⟨c0,c1⟩
 ·refine (zR base w).grown (row:=some g) ⟨rfl,rfl,rfl,size_sortWorldK_c b2b 2 w g 0 n d' os,fun k hk hne=> ?_⟩ ?_ (fun k e=>by cases e;exact hbase)
  ·unfold sortWorldK
   rw[heap_grow_old _ _ (by rw[size_putRowK];exact hk)];have:g≠k:=fun e=>hne (by rw[e])
   simp[putRowK,putRow,mapBlock,Sort.ahead,Array.getElem?_modify,this]
  ·exact Nat.le_trans hbase (Nat.le_of_lt hg)
end
section
open Go.RowKit Go.Shelf Go.Sort Go.Lib Go.Maps
attribute [local go_sem] Oper.semAt_some
attribute [local go_sem ↓] Go.wp_at_zero Go.wp_at_succ
theorem b2c (Bm b nn:Nat)(en:List (a0o×Int))(w:World)(hBm:Bm<w.heap.size)(hm:w.cell? ⟨Bm,0,none⟩=some (.map (some b)))(hM:MapIs w b nn en)(hnn:nn≤4294967296)(hne:en≠[])(hlen:en.length≤4294967296) :
 Calls prog 123 #[.func (.func 162) #[] #[.pointer (some ⟨Bm,0,none⟩)],.func (.func 125) #[] #[]] w fun e w'=>∃v,e= .returned v∧RowS w.heap.size w' v (a2r en)∧Below w.heap.size w w':=by
 have eg:∀args w,(callFunc 162 args).run prog w= .ok (.enter 162 args) w:=enters_of func162 (by kernel_rfl) rfl;have hnd:(en.map (·.1)).Nodup:=by obtain⟨D,_,h,_⟩:=hM;exact h
 have hcol:=(callsIn_wide (n:=3)).1 (b2n _ 3 trivial trivial rfl (yR _) 162 #[.pointer (some ⟨Bm,0,none⟩)] trivial eg _ _ nn hnn w (b2m _ 1 trivial rfl (yR _) Bm b nn en w hBm hm hM));go_enter func123,ntmps123;go_wp2_with (go_at_call 160;refine hcol.mono ?_;rintro e w1⟨v,ss,rfl,⟨hs1,hs2⟩,hrow,hnl,hb1⟩);clear hcol;have hp:=b2o hnd hs1 hs2;have hl:=hp.length_eq;rw[a2x] at hl;have hss:ss≠[]:=fun e=>by
  rw[e] at hl;exact hne (List.eq_nil_of_length_eq_zero hl.symm)
 clear hs1 hs2 hnl;have hsf:=b5p w.heap.size v ss en w1 hrow hss hp (by omega);go_wp2_with (go_at_call 161;refine hsf.mono ?_;rintro e w2⟨rfl,hr2,hb2⟩);go_ret;exact⟨v,rfl,hr2,hb1.trans hb2⟩
structure Dt where
 x:Int
 y:Int
 k:Int
 i:Int
deriving DecidableEq
abbrev a7l (d:Dt):List Value:=[.int .i64 d.x,.int .i64 d.y,.int .i64 d.k,.int .i64 d.i]
def a1u (kind:Int)(en:List (a0o×Int)):List Dt:=(a2r en).map fun p=>⟨p.1,p.2,kind,(a5m en p).getD 0⟩
theorem a4f (kind:Int)(en:List (a0o×Int)):(a1u kind en).length=en.length:=by unfold a1u;rw[List.length_map,a2x]
theorem d0g:(prog.info? 54).map (fun i=>(i.zero,i.size,i.bytes))=some (some (.agg #[.int .i64 0,.int .i64 0,.int .i64 0,.int .i64 0]),4,32):=by kernel_rfl
theorem MapIs.look {W:World}{b n:Nat}{en:List (a0o×Int)}(h:MapIs W b n en){p:a0o}(hp:a7g p) :
 (Instr.lookup 117 (.map (some b)) (a4e p) false).run prog W= .ok (.int .i64 ((a5m en p).getD 0)) W:=by
 obtain⟨D,ho,-,-,hk⟩:=h;obtain⟨c,hrun,hat,-⟩:=ho.lookup_int spotLaw underlying117 underlying3 (b0l _) (a1n hp);rw[(hk p hp).2] at hat;simp at hat;rw[hrun,hat]
theorem MapIs.grow {W:World}{b n:Nat}{en:List (a0o×Int)}(h:MapIs W b n en)(p:Growth):MapIs (W.growBy p) b n en:=h.kept (a0z W p) (by simp)
theorem RowS.cons {n₀:Nat}{W:World}{v:Value}{ss:List a0o}(h:RowS n₀ W v ss)(hne:ss≠[]):∃g cap,v= .slice (some ⟨g,0,none⟩) ss.length cap∧n₀≤g∧g<W.heap.size∧∀j,(h:j<ss.length)→W.cell? ⟨g,j*2,none⟩=some (.int .i64 ss[j].1)∧W.cell? ⟨g,j*2+1,none⟩=some (.int .i64 ss[j].2):=by
 rcases h with ⟨_,h⟩|h
 ·exact absurd h hne
 ·exact h
theorem c7j {en:List (a0o×Int)}(h:en≠[]):a2r en≠[]:=fun e=>h (List.eq_nil_of_length_eq_zero (by rw[←a2x,e];rfl))
theorem b0m (kind:Int)(b nn:Nat)(en:List (a0o×Int))(w:World)(hM:MapIs w b nn en)(hnn:nn≤4294967296)(hne:en≠[])(hlen:en.length≤8388608) :
 Calls prog 68 #[.map (some b),.int .i64 kind] w fun e w'=>∃v base,e= .returned v∧w.heap.size≤base∧w'.ownsRow base 54 4 v (a1u kind en).length ((a1u kind en).flatMap a7l)∧Below w.heap.size w w':=by
 obtain⟨i0,hi0,hz0,hz1,hz2⟩:=info_parts d0g;have hb:=hM.lt;have hkeys:=fun mb W=>(callsIn_wide (n:=1)).1 (c3s _ 1 trivial rfl mb W)
 have hsf:=b2c w.heap.size b nn en (w.alloc (.cells #[.map (some b)] 117)) (by simp) (by simp) (hM.alloc _) hnn hne (by omega);simp only[World.size_alloc] at hsf;go_enter func68,ntmps68;go_wp2_with (first|(go_at_call 124;refine (hkeys _ _).mono ?_;rintro e w1⟨rfl,rfl⟩)|(go_at_call 123;refine hsf.mono ?_;rintro e w2⟨v,rfl,hr2,hb2⟩;obtain⟨g,cap,rfl,hg0,hg1,hcs⟩:=hr2.cons (c7j hne)));clear hsf hkeys;have hB2:RowKit.Below w.heap.size w w2:=Below.trans (b:=w.alloc (.cells #[.map (some b)] 117)) (by repeat' (first|with_reducible (first|exact zR _ _|exact yR _|assumption|refine zG ?_ ?_ _|refine zA ?_ ?_ _|refine zS ?_ ?_ _|refine zD ?_|refine yA ?_|refine yG ?_|refine yS ?_|refine yD ?_)|omega|(dsimp only;omega))) (hb2.mono (by repeat' (first|with_reducible (first|exact zR _ _|exact yR _|assumption|refine zG ?_ ?_ _|refine zA ?_ ?_ _|refine zS ?_ ?_ _|refine zD ?_|refine yA ?_|refine yG ?_|refine yS ?_|refine yD ?_)|omega|(dsimp only;omega))));have hM2:=hM.below hB2 hb;have hs2:=hB2.size;have hfit:∀e∈en,a7g e.1:=by obtain⟨D,_,_,h,_⟩:=hM;exact h
 have hkl:=Lib.hid (a2x en);have hkb:(a2r en).length≤8388608:=by rw[hkl.out];exact hlen
 have hfk:∀p∈a2r en,a7g p:=fun p hp=>by
  have:=(List.mergeSort_perm _ _).mem_iff.1 hp;obtain⟨e,he,rfl⟩:=List.mem_map.1 this;exact hfit e he
 clear hb2 hM hfit;go_loopw [4,13] (fun u i wr=>∃(k:Nat) (v:Value),k≤(a2r en).length∧u=v∧i= .int .i64 k∧wr.ownsRow w2.heap.size 54 4 v k (((a1u kind en).take k).flatMap a7l)∧RowKit.Below w2.heap.size w2 wr)
  (fun _ i _=>(a2r en).length-(intOf i).toNat)
 case atStart=>exact⟨0,_,Nat.zero_le _,rfl,rfl,⟨by simp,.inl ⟨rfl,rfl⟩⟩,zR _ _⟩
 case round =>
  obtain⟨k,v,hk,rfl,rfl,hrow,hnx⟩:=hrel;have hsw:=hnx.size;by_cases hlt:k<(a2r en).length
  ·have hltI:(k:Int)<((a2r en).length:Int):=by omega
   obtain⟨c0,c1⟩:=hcs k hlt;have c0:=(hnx.cell (p:=⟨g,k*2,none⟩) hg1).trans c0;have c1:=(hnx.cell (p:=⟨g,k*2+1,none⟩) hg1).trans c1;have hpk:=hfk _ (List.getElem_mem hlt);have hd:(a1u kind en)[k]? =some ⟨(a2r en)[k].1,(a2r en)[k].2,kind,(a5m en (a2r en)[k]).getD 0⟩:=by
    unfold a1u;rw[List.getElem?_map,List.getElem?_eq_getElem hlt];rfl
   generalize hp:(a2r en)[k]=p at c0 c1 hpk hd;clear hp;obtain⟨px,py⟩:=p;simp only at c0 c1 hd;obtain⟨id,hid⟩:∃id,(a5m en (px,py)).getD 0=id:=⟨_,rfl⟩;rw[hid] at hd;have hw1:=hM2.below hnx hM2.lt;go_wp2_with fail;obtain⟨W,hW⟩:∃W,wr.alloc (.cells #[.int .i64 px,.int .i64 py] 122)=W:=⟨_,rfl⟩;have bX:Blk W wr.heap.size #[.int .i64 px,.int .i64 py] 122:=by rw[←hW];exact Blk.new wr _ _
   have hrowW:W.ownsRow w2.heap.size 54 4 u4 k (((a1u kind en).take k).flatMap a7l):=by rw[←hW];exact hrow.alloc _
   have hMW:MapIs W b nn en:=by rw[←hW];exact hw1.alloc _
   have hnW:RowKit.Below w2.heap.size w2 W:=by rw[←hW];exact hnx.alloc hsw _
   have hsW:=hnW.size;have hlk:(Instr.lookup 117 (.map (some b)) (.agg #[.int .i64 px,.int .i64 py]) false).run prog W.drew= .ok (.int .i64 id) W.drew:=by
    have:=(show MapIs W.drew b nn en from hMW).look hpk;rw[hid] at this;exact this
   have hrowD:W.drew.ownsRow w2.heap.size 54 4 u4 k (((a1u kind en).take k).flatMap a7l):=hrowW;have hnD:RowKit.Below w2.heap.size w2 W.drew:=hnW.drew;have hsD:W.drew.heap.size=W.heap.size:=rfl;have x0:W.drew.cell? ⟨wr.heap.size,0,none⟩=some (.int .i64 px):=bX.cell 0;have x1:W.drew.cell? ⟨wr.heap.size,1,none⟩=some (.int .i64 py):=bX.cell 1;rw[hW];clear hW hrow hw1 c0 c1;generalize wr.heap.size=Bx at *;go_region_law (refine step_append_lies _ (by rfl) _ _ _ (by rfl) w2.heap.size 54 i0 _ 4 32 underlying41 hi0 hz0 hz1 hz2 rfl (by omega) u4 k _ (by rfl) (hrowD.alloc _) _ 1 1 _ (by rfl) ?_ (World.news_of_block (heap_alloc_new _ _)) (by simp[Value.oneCell']) (by omega) (by unfold maxLen;omega) (by omega) (by simp;omega) _ rfl ?_;rfl;intro g2 cap2 w3 hown3 hgrow3 hat3 hlt3)
   all_goals
    clear hlk hrowD x0 x1;have hB3:RowKit.Below w2.heap.size w2 w3:=by
     exact ((hnW.alloc hsW (.cells #[.int .i64 px,.int .i64 py,.int .i64 kind,.int .i64 id] 54)).drew).grown hgrow3 (by show w2.heap.size≤(W.alloc _).heap.size;simp;omega) (fun r e=>(hrowW.lt r e).1)
    have htk:((a1u kind en).take (k+1)).flatMap a7l=((a1u kind en).take k).flatMap a7l++a7l ⟨px,py,kind,id⟩:=by
     rw[List.take_add_one,hd];simp[List.flatMap_append]
    go_wp2_with fail;go_roundw
    case rel=>exact⟨k+1,_,by omega,rfl,by go_num,by rw[htk];exact hown3,hB3⟩
    case measure=>simp[intOf];omega
  ·obtain rfl:k=(a2r en).length:=by omega
   go_wp2_with fail;go_ret;refine⟨u4,w2.heap.size,rfl,hs2,?_,hB2.trans (hnx.mono hs2)⟩;have hl:(a1u kind en).length=(a2r en).length:=by rw[a4f,hkl.out]
   rw[hl];rw[←hl,List.take_length,hl] at hrow;exact hrow
end
section
open Go.RowKit Go.Shelf
attribute [local go_sem] Oper.semAt_some
def mx (x y:Int):Int:=if y>x then y else x
def c4c (a b c d:Int):Int:=mx (mx (mx a b) c) d
theorem run_max4 {P:Program}(ts:Array TypeId)(t:TypeId)(a b c d:Int)(w:World):(Builtin.max_ ts t #[.int .i64 a,.int .i64 b,.int .i64 c,.int .i64 d]).run P w= .ok (.int .i64 (c4c a b c d)) w:=by
 simp[Builtin.max_,Builtin.max2,c4c,mx]
theorem d0h (a b c d:Int):a≤c4c a b c d∧b≤c4c a b c d∧c≤c4c a b c d∧d≤c4c a b c d:=by
 unfold c4c mx;repeat' split
 all_goals omega
theorem c4d {a b c d m:Int}(ha:a≤m)(hb:b≤m)(hc:c≤m)(hd:d≤m):c4c a b c d≤m:=by
 unfold c4c mx;repeat' split
 all_goals omega
def a4y (a b:a0o):Int:=c4c (b.1-a.1) (-(b.1-a.1)) (b.2-a.2) (-(b.2-a.2))
def a5o (a b:a0o)(t:Int):a0o :=
 if 0<a4y a b then
  (a.1+(2*t*(b.1-a.1)+a4y a b) / (2*a4y a b),a.2+(2*t*(b.2-a.2)+a4y a b) / (2*a4y a b))
 else a
structure Near (p:a0o):Prop where
 x0 : -40000≤p.1
 x1:p.1≤40000
 y0 : -40000≤p.2
 y1:p.2≤40000
instance (n:Int):Decidable (a0i n):=inferInstanceAs (Decidable (_∧_))
instance (p:a0o):Decidable (a7g p):=inferInstanceAs (Decidable (_∧_))
def c4e {α:Type}(f:Nat→α)(k:Nat):List α:=(List.range k).map f
theorem b5q {α:Type}(f:Nat→α)(k:Nat):c4e f (k+1)=c4e f k++[f k]:=by simp[c4e,List.range_succ]
theorem a6r {α:Type}(f:Nat→α)(k:Nat):(c4e f k).length=k:=by simp[c4e]
abbrev a8f:={ p:a0o // a7g p }
def a9o (a b:a0o)(k:Nat):a8f:=if h:a7g (a5o a b k) then ⟨a5o a b k,h⟩ else ⟨(0,0),by constructor <;> constructor <;> decide⟩
theorem b5r {a b:a0o}{k:Nat}(h:a7g (a5o a b k)):(a9o a b k).1=a5o a b k:=by unfold a9o;rw[dif_pos h]
theorem c1s {ax ay bx by_ N t:Int}(h:a4y (ax,ay) (bx,by_)=N)(h0:0<N):a5o (ax,ay) (bx,by_) t=(ax+(2*t*(bx-ax)+N) / (2*N),ay+(2*t*(by_-ay)+N) / (2*N)):=by
 unfold a5o;rw[h,if_pos h0]
theorem b0n {a b:a0o}{N t:Int}(h:a4y a b=N)(h0:¬0<N):a5o a b t=a:=by
 unfold a5o;rw[h,if_neg h0]
theorem b8i {t N x:Int}(t0:0≤t)(t1:t≤N)(N1:N≤4194304)(x0 : -N≤x)(x1:x≤N) : -(2*N)*4194304≤2*t*x∧2*t*x≤(2*N)*4194304:=by
 have h1:2*t*x≤2*t*N:=Int.mul_le_mul_of_nonneg_left x1 (by omega);have h2:2*t*(-N)≤2*t*x:=Int.mul_le_mul_of_nonneg_left x0 (by omega);have h3:2*t*N≤2*N*4194304:=Int.mul_le_mul (by omega) N1 (by omega) (by omega);have h4:2*t*(-N) = -(2*t*N):=by rw[Int.mul_neg]
 have h5 : -(2*N)*4194304 = -(2*N*4194304):=by rw[Int.neg_mul]
 omega
theorem c4f {t N x:Int}(N0:0<N)(t0:0≤t)(t1:t≤N)(N1:N≤4194304)(x0 : -N≤x)(x1:x≤N) : -4194305≤(2*t*x+N) / (2*N)∧(2*t*x+N) / (2*N)≤4194305:=by
 obtain⟨h1,h2⟩:=b8i t0 t1 N1 x0 x1;constructor
 ·refine Int.le_ediv_of_mul_le (by omega) ?_
  have : -4194305*(2*N) = -(2*N)*4194304-2*N:=by grind
  omega
 ·refine Int.ediv_le_of_le_mul (by omega) ?_
  have:4194305*(2*N)=(2*N)*4194304+2*N:=by grind
  omega
attribute [local go_sem] run_max4
theorem c7k (n:Nat)(hn:1≤n)(l Ba Bb n₀:Nat)(ax ay bx by_:Int)(ha0 : -40000≤ax)(ha1:ax≤40000)(ha2 : -40000≤ay)(ha3:ay≤40000)(hb0 : -40000≤bx)(hb1:bx≤40000)(hb2 : -40000≤by_)(hb3:by_≤40000)
 (J Jx:List a8f→World→Prop)
 (hY:∀pre (x:a8f) W,J pre W→pre.length<(a4y (ax,ay) (bx,by_)+1).toNat→YieldAt Fence.wide (n-1) prog l #[a4e x.1] W fun e W' =>
  (e= .returned (.bool true)∧J (pre++[x]) W'∧(W'.heap[Ba]? =W.heap[Ba]?∧W'.heap[Bb]? =W.heap[Bb]?))∨(e= .returned (.bool false)∧Jx (pre++[x]) W'))
 (hJ:∀pre (A A':World),J pre A→A.grownBy A' none→J pre A')
 (W:World)
 (kA:Blk W Ba #[.int .i64 ax,.int .i64 ay] 122) (kB:Blk W Bb #[.int .i64 bx,.int .i64 by_] 122) (h0:J [] W) :
 CallsIn Fence.wide n prog 139 #[.func (.yield l) #[] #[],.pointer (some ⟨Bb,0,none⟩),.pointer (some ⟨Ba,0,none⟩)] W fun e W'=>(∃v,e= .returned v) ∧
  ((∃ys,ys=c4e (a9o (ax,ay) (bx,by_)) (a4y (ax,ay) (bx,by_)+1).toNat∧J ys W')∨(∃pre,True∧Jx pre W')):=by
 have c0:W.cell? ⟨Ba,0,none⟩=some (.int .i64 ax):=kA.cell 0;have c1:W.cell? ⟨Ba,1,none⟩=some (.int .i64 ay):=kA.cell 1;have c2:W.cell? ⟨Bb,0,none⟩=some (.int .i64 bx):=kB.cell 0;have c3:W.cell? ⟨Bb,1,none⟩=some (.int .i64 by_):=kB.cell 1;obtain⟨N,hN⟩:∃N,c4c (bx-ax) (-(bx-ax)) (by_-ay) (-(by_-ay))=N:=⟨_,rfl⟩;have hge:=d0h (bx-ax) (-(bx-ax)) (by_-ay) (-(by_-ay));have hle:=c4d (a:=bx-ax) (b := -(bx-ax)) (c:=by_-ay) (d := -(by_-ay)) (m:=2097152) (by omega) (by omega) (by omega) (by omega);rw[hN] at hge hle;obtain⟨g0,g1,g2,g3⟩:=hge;have hNe:=Lib.hid (show a4y (ax,ay) (bx,by_)=N from hN);refine callsIn_of_wp func139 rfl trivial ?_ rfl;simp only[ntmps139,List.size_toArray,List.length_cons,List.length_nil,Nat.reduceAdd,Nat.reduceSub,Array.replicate_succ,Array.replicate_zero,List.push_toArray,List.append_toArray,List.nil_append,List.cons_append];gi_wp2;refine wpIn_wide.2 ?_;first|with_reducible refine a0v (by kernel_rfl) (by kernel_rfl) ?_|with_reducible refine a1a (by kernel_rfl) (by kernel_rfl) ?_
 repeat (first|go_big_quiet_step (fail)|quiet_step (fail))
 refine wpQuiet_nil ?_;intro _ hw_;obtain⟨p,hw_⟩:=hw_;subst hw_;gi_wp2;have N0:0≤N:=by omega
 obtain⟨m,hm⟩:∃m:Nat,N=m:=⟨N.toNat,by omega⟩;have hm1:(N+1).toNat=m+1:=by omega
 replace hm:=Lib.hid hm;replace hm1:=Lib.hid hm1;have kA1:=kA.grow p;have kB1:=kB.grow p;have h1:=hJ [] W _ h0 (a0z W p);generalize W.growBy p=W1 at *;gi_loopw [28] (fun i wr=>∃k:Nat,k≤m+1∧i= .int .i64 k∧J (c4e (a9o (ax,ay) (bx,by_)) k) wr∧Blk wr Ba #[.int .i64 ax,.int .i64 ay] 122∧Blk wr Bb #[.int .i64 bx,.int .i64 by_] 122)
  (fun i _=>m+1-(intOf i).toNat)
 case atStart=>exact⟨0,by omega,rfl,h1,kA1,kB1⟩
 case round =>
  obtain⟨k,hk,rfl,hJs,kA2,kB2⟩:=hrel;have hlA:a4y (ax,ay) (bx,by_)=N:=hNe.out;by_cases hlt:k<m+1
  ·have hltI:(k:Int)<N+1:=by have:=hm.out;omega
   have c0:wr.cell? ⟨Ba,0,none⟩=some (.int .i64 ax):=kA2.cell 0;have c1:wr.cell? ⟨Ba,1,none⟩=some (.int .i64 ay):=kA2.cell 1;have lA:=kA2.lt;have lB:=kB2.lt;by_cases hNz:0<N
   ·obtain⟨s0,s1⟩:=b8i (t:=(k:Int)) (N:=N) (x:=bx-ax) (by omega) (by omega) (by omega) (by omega) (by omega)
    obtain⟨s2,s3⟩:=b8i (t:=(k:Int)) (N:=N) (x:=by_-ay) (by omega) (by omega) (by omega) (by omega) (by omega);obtain⟨r0,r1⟩:=c4f (t:=(k:Int)) (N:=N) (x:=bx-ax) hNz (by omega) (by omega) (by omega) (by omega) (by omega);obtain⟨r2,r3⟩:=c4f (t:=(k:Int)) (N:=N) (x:=by_-ay) hNz (by omega) (by omega) (by omega) (by omega) (by omega);have s0 : -17592186044416≤2*(k:Int)*(bx-ax):=by omega
    have s1:2*(k:Int)*(bx-ax)≤17592186044416:=by omega
    have s2 : -17592186044416≤2*(k:Int)*(by_-ay):=by omega
    have s3:2*(k:Int)*(by_-ay)≤17592186044416:=by omega
    obtain⟨q1,e1⟩:∃q,(2*(k:Int)*(bx-ax)+N) / (2*N)=q:=⟨_,rfl⟩;obtain⟨q2,e2⟩:∃q,(2*(k:Int)*(by_-ay)+N) / (2*N)=q:=⟨_,rfl⟩;have hv:a5o (ax,ay) (bx,by_) k=(ax+q1,ay+q2):=by rw[c1s hlA hNz,←e1,←e2]
    rw[e1] at r0 r1;rw[e2] at r2 r3;have hfit:a7g (a5o (ax,ay) (bx,by_) k):=by rw[hv];exact⟨⟨by omega,by omega⟩,⟨by omega,by omega⟩⟩
    have hval:(a9o (ax,ay) (bx,by_) k).1=(ax+q1,ay+q2):=(b5r hfit).trans hv;clear hfit hv;replace e1:=Lib.hid e1;replace e2:=Lib.hid e2;replace hlA:=Lib.hid hlA;gi_wp2;refine wpIn_wide.2 ?_;first|with_reducible refine a0f 25 (by kernel_rfl) (by kernel_rfl) ?_|with_reducible refine a0h 25 (by kernel_rfl) (by kernel_rfl) ?_
    simp only[List.take_succ_cons,List.take_zero,List.drop_succ_cons,List.drop_zero];repeat (first|go_big_quiet_step ((go_at_call 140;exact Calls.grow_of_same (a9u (by first|with_reducible exact e1.out|with_reducible exact e2.out) _ (by omega) (by omega) (by omega))))|quiet_step ((go_at_call 140;exact Calls.grow_of_same (a9u (by first|with_reducible exact e1.out|with_reducible exact e2.out) _ (by omega) (by omega) (by omega)))))
    refine wpQuiet_nil ?_;intro _ hw_;obtain⟨p,hw_⟩:=hw_;subst hw_;go_wp2_with fail;have hB3:RowKit.Below wr.heap.size wr ((wr.alloc (.cells #[.int .i64 (ax+q1),.int .i64 (ay+q2)] 122)).growBy p):=(by repeat' (first|with_reducible (first|exact zR _ _|exact yR _|assumption|refine zG ?_ ?_ _|refine zA ?_ ?_ _|refine zS ?_ ?_ _|refine zD ?_|refine yA ?_|refine yG ?_|refine yS ?_|refine yD ?_)|omega|(dsimp only;omega)));have bX:=(Blk.new wr #[.int .i64 (ax+q1),.int .i64 (ay+q2)] 122).grow p;obtain⟨W3,hW3⟩:∃W3,(wr.alloc (.cells #[.int .i64 (ax+q1),.int .i64 (ay+q2)] 122)).growBy p=W3:=⟨_,rfl⟩;rw[hW3] at hB3 bX ⊢;clear hW3;have hJ3:=hJ _ wr W3 hJs (a1o hB3);have kA3:=kA2.below hB3 lA;have kB3:=kB2.below hB3 lB;have x0:W3.cell? ⟨wr.heap.size,0,none⟩=some (.int .i64 (ax+q1)):=bX.cell 0;have x1:W3.cell? ⟨wr.heap.size,1,none⟩=some (.int .i64 (ay+q2)):=bX.cell 1;obtain⟨fn,tmps,assign,body,hy,hR⟩:=hY _ (a9o (ax,ay) (bx,by_) k) W3 hJ3 (by rw[a6r,hNe.out,hm1.out];exact hlt);rw[hval] at hy;clear s0 s1 s2 s3 r0 r1 r2 r3 c0 c1 hB3 bX;generalize wr.heap.size=Bx at *;gi_wp2;refine hR.mono ?_;rintro e W4 (⟨rfl,hJ4,e5,e6⟩|⟨rfl,hJx⟩)
    ·gi_wp2
     go_roundw
     case rel=>exact⟨k+1,by omega,by go_num,by rw[b5q];exact hJ4,e5.trans kA3,e6.trans kB3⟩
     case measure=>simp[intOf];omega
    ·gi_wp2
     refine bodyPost_ret (results_none rfl _ _ _) rfl ?_;exact⟨⟨_,rfl⟩,.inr ⟨_,trivial,hJx⟩⟩
   ·have hfit:a7g (a5o (ax,ay) (bx,by_) k):=by rw[b0n hlA hNz];exact⟨⟨by omega,by omega⟩,⟨by omega,by omega⟩⟩
    have hval:(a9o (ax,ay) (bx,by_) k).1=(ax,ay):=(b5r hfit).trans (b0n hlA hNz);clear hfit;replace hlA:=Lib.hid hlA;have hB3:RowKit.Below wr.heap.size wr (wr.alloc (.cells #[.int .i64 ax,.int .i64 ay] 122)):=(by repeat' (first|with_reducible (first|exact zR _ _|exact yR _|assumption|refine zG ?_ ?_ _|refine zA ?_ ?_ _|refine zS ?_ ?_ _|refine zD ?_|refine yA ?_|refine yG ?_|refine yS ?_|refine yD ?_)|omega|(dsimp only;omega)));have hJ3:=hJ _ wr _ hJs (a1o hB3);have kA3:=kA2.below hB3 lA;have kB3:=kB2.below hB3 lB;obtain⟨fn,tmps,assign,body,hy,hR⟩:=hY _ (a9o (ax,ay) (bx,by_) k) _ hJ3 (by rw[a6r,hNe.out,hm1.out];exact hlt);rw[hval] at hy;gi_wp2;refine hR.mono ?_;rintro e W4 (⟨rfl,hJ4,e5,e6⟩|⟨rfl,hJx⟩)
    ·gi_wp2
     go_roundw
     case rel=>exact⟨k+1,by omega,by go_num,by rw[b5q];exact hJ4,e5.trans kA3,e6.trans kB3⟩
     case measure=>simp[intOf];omega
    ·gi_wp2
     refine bodyPost_ret (results_none rfl _ _ _) rfl ?_;exact⟨⟨_,rfl⟩,.inr ⟨_,trivial,hJx⟩⟩
  ·obtain rfl:k=m+1:=by omega
   have hltI:¬(((m+1:Nat):Int)<N+1):=by have:=hm.out;omega
   replace hlA:=Lib.hid hlA;gi_wp2;go_end0;exact⟨⟨_,rfl⟩,.inl (by rw[hNe.out,hm1.out];exact hJs)⟩
def b5s (Ba Bb:Nat)(A B:World):Prop:=B.heap[Ba]? =A.heap[Ba]?∧B.heap[Bb]? =A.heap[Bb]?
theorem c4g {Ba Bb:Nat}{A B C:World}(h:b5s Ba Bb A B)(k:b5s Ba Bb B C):b5s Ba Bb A C:=⟨k.1.trans h.1,k.2.trans h.2⟩
theorem d0i {Ba Bb:Nat}{w:World}(ha:Ba<w.heap.size)(hb:Bb<w.heap.size)(W:World)(l:Nat)(o o':Obj)(hl:w.heap.size≤l)(_:W.heap[l]? =some o)(_:o.isCells=false)(_:o.isWalk=false):b5s Ba Bb W (W.putObj l o') :=
 ⟨World.putObj_heap_other (by omega),World.putObj_heap_other (by omega)⟩
theorem c1t (n:Nat)(hn:1≤n)(Ba Bb:Nat)(a b:a0o)(ha:Near a)(hb:Near b)(w:World)
 (kA:Blk w Ba #[.int .i64 a.1,.int .i64 a.2] 122) (kB:Blk w Bb #[.int .i64 b.1,.int .i64 b.2] 122) :
 SeqStopsK Fence.wide n prog 139 #[.pointer (some ⟨Bb,0,none⟩),.pointer (some ⟨Ba,0,none⟩)] (fun x:a8f=> #[a4e x.1]) (b5s Ba Bb) (fun ys=>ys=c4e (a9o a b) (a4y a b+1).toNat) (fun _=>True) (a4y a b+1).toNat w:=fun l J Jx W hW hJ _ hY h0=>by
 obtain⟨ax,ay⟩:=a;obtain⟨bx,by_⟩:=b;obtain⟨a0,a1,a2,a3⟩:=ha;obtain⟨b0,b1,b2,b3⟩:=hb;exact c7k n hn l Ba Bb 0 ax ay bx by_ a0 a1 a2 a3 b0 b1 b2 b3 J Jx hY (fun pre A A' hj hg=>hJ pre A A' none hj hg (fun r e=>by cases e)) W (kA.below hW kA.lt) (kB.below hW kB.lt) h0
theorem c7l (ax ay bx by_:Int)(w:World) :
 Calls prog 82 #[a4e (ax,ay),a4e (bx,by_)] w fun e w'=>e= .returned (.func (.func 139) #[] #[.pointer (some ⟨w.heap.size+1,0,none⟩),.pointer (some ⟨w.heap.size,0,none⟩)]) ∧
  w'=(w.alloc (.cells #[.int .i64 ax,.int .i64 ay] 122)).alloc (.cells #[.int .i64 bx,.int .i64 by_] 122):=by
 go_enter func82,ntmps82;go_wp2_with fail;go_ret;exact⟨rfl,rfl⟩
theorem b0o (x y:Int)(w:World) :
 Calls prog 81 #[.agg #[.int .i64 x,.int .i64 y]] w fun e w'=>e= .returned (.bool (!a2b x y))∧Below w.heap.size w w':=by
 obtain⟨b,hb⟩:∃b,a2b x y=b:=⟨_,rfl⟩;rw[hb];replace hb:=Lib.hid hb;go_enter func81,ntmps81;go_wp2_with (go_at_call 60;refine (a6b hb.out _).mono ?_;rintro e w'⟨rfl,hb_⟩;obtain⟨p,rfl⟩:=a0c hb_;clear hb_);go_ret;exact⟨by simp,(by repeat' (first|with_reducible (first|exact zR _ _|exact yR _|assumption|refine zG ?_ ?_ _|refine zA ?_ ?_ _|refine zS ?_ ?_ _|refine zD ?_|refine yA ?_|refine yG ?_|refine yS ?_|refine yD ?_)|omega|(dsimp only;omega)))⟩
end
end Go.Proofs.YtfocdbjceedagaaGreatDoor
