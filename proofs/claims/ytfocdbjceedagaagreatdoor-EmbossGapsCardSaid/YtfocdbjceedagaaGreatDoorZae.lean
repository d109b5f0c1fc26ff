/-
  Parts.
-/
import Derived.Test.YtfocdbjceedagaaGreatDoorZad
import Derived.Test.YtfocdbjceedagaaGreatDoorZaf
import Derived.Shelf.SlSortCmp.QuietGrown
set_option linter.unusedVariables false
set_option linter.unusedSimpArgs false
set_option maxHeartbeats 8000000
set_option maxRecDepth 100000
namespace Go.Proofs.YtfocdbjceedagaaGreatDoor
open Tryz
section
open Go.RowKit Go.Shelf
attribute [local go_sem] Oper.semAt_some
def dotX (s:Sh)(x:Int):Int:=(x-s.ax) / s.st
def dotY (s:Sh)(y:Int):Int:=(y-s.ay) / s.st
def onS (s:Sh)(i j:Int):Bool:=inR 0 i (s.w-1)&&inR 0 j (s.h-1)
structure OkS (s:Sh):Prop where
 st0:1≤s.st
 st1:s.st≤1024
 w0:1≤s.w
 w1:s.w≤80
 h0:1≤s.h
 h1:s.h≤80
 x0 : -16384≤s.ax
 x1:s.ax≤16384
 y0 : -16384≤s.ay
 y1:s.ay≤16384
theorem rightP_iff {x y:Int}:rightP x y=true↔(-16384≤x∧x≤16384) ∧ -16384≤y∧y≤16384:=by simp[rightP]
theorem okS_of {s:Sh}(h:checkS s=0):OkS s:=by
 unfold checkS at h
 split at h
 ·rename_i h1
  split at h
  ·rename_i h2
   simp only[Bool.and_eq_true,inR_iff,rightP_iff] at h1 h2
   exact⟨by omega,by omega,by omega,by omega,by omega,by omega,by omega,by omega,by omega,by omega⟩
  ·omega
 ·omega
theorem floor_eq {a b r:Int}(hr:a / b=r)(w:World)(hb:0<b)(h0 : -4611686018427387904≤a)(h1:a≤4611686018427387904) :
 Calls prog 140 #[.int .i64 a,.int .i64 b] w fun e w'=>e= .returned (.int .i64 r)∧w=w':=by
 have h:=floor_any a b w hb h0 h1
 rw[hr] at h
 exact h
theorem of_any (s:Sh)(x y i j:Int)(w:World)(hi:dotX s x=i)(hj:dotY s y=j)(hs:OkS s)(x0 : -1048576≤x)(x1:x≤1048576)(y0 : -1048576≤y)(y1:y≤1048576) :
 Calls prog 83 #[shV s,.agg #[.int .i64 x,.int .i64 y]] w fun e w'=>e= .returned (.agg #[.int .i64 i,.int .i64 j])∧Below w.heap.size w w':=by
 obtain⟨ax,ay,st,W,H,G⟩:=s
 obtain⟨s0,s1,-,-,-,-,a0,a1,b0,b1⟩:=hs
 simp only[dotX,dotY] at hi hj s0 s1 a0 a1 b0 b1
 replace hi:=Lib.hid hi
 replace hj:=Lib.hid hj
 go_enter func83,ntmps83
 go_wp2_with fail
 first|with_reducible refine wp_region_grow_tail2 19 (by kernel_rfl) (by kernel_rfl) ?_|with_reducible refine wp_region_grow_tail 19 (by kernel_rfl) (by kernel_rfl) ?_
 simp only[List.take_succ_cons,List.take_zero,List.drop_succ_cons,List.drop_zero]
 repeat (first|go_big_quiet_step ((go_at_call 140;exact Calls.grow_of_same (floor_eq (by first|with_reducible exact hi.out|with_reducible exact hj.out) _ (by omega) (by omega) (by omega))))|quiet_step ((go_at_call 140;exact Calls.grow_of_same (floor_eq (by first|with_reducible exact hi.out|with_reducible exact hj.out) _ (by omega) (by omega) (by omega)))))
 refine wpQuiet_nil ?_
 intro _ hw_
 obtain⟨p,hw_⟩:=hw_
 subst hw_
 go_wp2_with fail
 exact bodyPost_ret (v:= .agg #[.int .i64 i,.int .i64 j]) (by simp[results,results83,go_sem]) rfl ⟨rfl,(by repeat' (first|with_reducible (first|exact zR _ _|exact yR _|assumption|refine zG ?_ ?_ _|refine zA ?_ ?_ _|refine zS ?_ ?_ _|refine zD ?_|refine yA ?_|refine yG ?_|refine yS ?_|refine yD ?_)|omega|(dsimp only;omega)))⟩
theorem on_any (s:Sh)(i j:Int)(b:Bool)(w:World)(hb:onS s i j=b)(hs:OkS s) :
 Calls prog 67 #[shV s,.agg #[.int .i64 i,.int .i64 j]] w fun e w'=>e= .returned (.bool b)∧Below w.heap.size w w':=by
 obtain⟨ax,ay,st,W,H,G⟩:=s
 obtain⟨s0,s1,u0,u1,v0,v1,a0,a1,b0,b1⟩:=hs
 simp only[onS] at hb u0 u1 v0 v1
 obtain⟨c1,h1⟩:∃b,inR 0 i (W-1)=b:=⟨_,rfl⟩
 obtain⟨c2,h2⟩:∃b,inR 0 j (H-1)=b:=⟨_,rfl⟩
 rw[h1,h2] at hb
 subst hb
 replace h1:=Lib.hid h1
 replace h2:=Lib.hid h2
 cases c1
 ·go_enter func67,ntmps67
  go_wp2_with (go_at_call 59;refine (within_eq (by first|with_reducible exact h1.out) _).mono ?_;rintro e w'⟨rfl,rfl⟩)
  go_ret
  exact⟨rfl,(by repeat' (first|with_reducible (first|exact zR _ _|exact yR _|assumption|refine zG ?_ ?_ _|refine zA ?_ ?_ _|refine zS ?_ ?_ _|refine zD ?_|refine yA ?_|refine yG ?_|refine yS ?_|refine yD ?_)|omega|(dsimp only;omega)))⟩
 ·go_enter func67,ntmps67
  go_wp2_with (go_at_call 59;refine (within_eq (by first|with_reducible exact h1.out|with_reducible exact h2.out) _).mono ?_;rintro e w'⟨rfl,rfl⟩)
  go_ret
  exact⟨rfl,(by repeat' (first|with_reducible (first|exact zR _ _|exact yR _|assumption|refine zG ?_ ?_ _|refine zA ?_ ?_ _|refine zS ?_ ?_ _|refine zD ?_|refine yA ?_|refine yG ?_|refine yS ?_|refine yD ?_)|omega|(dsimp only;omega)))⟩
def ofS (s:Sh)(x y:Int):Int×Int×Bool :=
 if checkS s=0∧rightP x y=true∧onS s (dotX s x) (dotY s y)=true then (dotX s x,dotY s y,true) else (0,0,false)
theorem check_eq {s:Sh}{r:Int}(hr:checkS s=r)(w:World)(f0:fits s.ax)(f1:fits s.ay) :
 Calls prog 22 #[shV s] w fun e w'=>e= .returned (.int .i64 r)∧Below w.heap.size w w':=by
 have h:=check_any s w f0 f1
 rw[hr] at h
 exact h
theorem ofc_any (s:Sh)(x y:Int)(w:World)(f0:fits s.ax)(f1:fits s.ay) :
 Calls prog 62 #[shV s,.agg #[.int .i64 x,.int .i64 y]] w fun e w'=>e= .returned (.tuple #[.int .i64 (ofS s x y).1,.int .i64 (ofS s x y).2.1,.bool (ofS s x y).2.2])∧Below w.heap.size w w':=by
 by_cases hc:checkS s=0
 ·have hs:=okS_of hc
  obtain⟨b1,h1⟩:∃b,rightP x y=b:=⟨_,rfl⟩
  obtain⟨i,hi⟩:∃i,dotX s x=i:=⟨_,rfl⟩
  obtain⟨j,hj⟩:∃j,dotY s y=j:=⟨_,rfl⟩
  obtain⟨b2,h2⟩:∃b,onS s i j=b:=⟨_,rfl⟩
  have hr:ofS s x y=if b1=true∧b2=true then (i,j,true) else (0,0,false):=by
   unfold ofS
   simp only[hc,h1,hi,hj,h2,true_and]
  rw[hr]
  clear hr
  replace hc:=Lib.hid hc
  cases b1 with
  |false =>
   replace h1:=Lib.hid h1
   replace hi:=Lib.hid hi
   replace hj:=Lib.hid hj
   obtain⟨ax,ay,st,W,H,G⟩:=s
   clear h2
   have hre:(if false=true∧b2=true then (i,j,true) else (0,0,false))=((0,0,false):Int×Int×Bool):=by simp
   rw[hre]
   clear hre
   go_enter func62,ntmps62
   go_wp2_with (first|(go_at_call 22;refine (check_eq hc.out _ f0 f1).mono ?_;rintro e w'⟨rfl,hb_⟩;obtain⟨p,rfl⟩:=grow_of_below hb_;clear hb_)|(go_at_call 60;refine (right_eq h1.out _).mono ?_;rintro e w'⟨rfl,hb_⟩;obtain⟨p,rfl⟩:=grow_of_below hb_;clear hb_))
   exact bodyPost_ret (v:= .tuple #[.int .i64 0,.int .i64 0,.bool false]) (by simp[results,results62,go_sem]) rfl ⟨rfl,(by repeat' (first|with_reducible (first|exact zR _ _|exact yR _|assumption|refine zG ?_ ?_ _|refine zA ?_ ?_ _|refine zS ?_ ?_ _|refine zD ?_|refine yA ?_|refine yG ?_|refine yS ?_|refine yD ?_)|omega|(dsimp only;omega)))⟩
  |true =>
   obtain⟨⟨x0,x1⟩,y0,y1⟩:=rightP_iff.1 h1
   replace h1:=Lib.hid h1
   replace hi:=Lib.hid hi
   replace hj:=Lib.hid hj
   replace h2:=Lib.hid h2
   obtain⟨ax,ay,st,W,H,G⟩:=s
   cases b2 <;>
   ·go_enter func62,ntmps62
    go_wp2_with (first|(go_at_call 22;refine (check_eq hc.out _ f0 f1).mono ?_;rintro e w'⟨rfl,hb_⟩;obtain⟨p,rfl⟩:=grow_of_below hb_;clear hb_)|(go_at_call 60;refine (right_eq h1.out _).mono ?_;rintro e w'⟨rfl,hb_⟩;obtain⟨p,rfl⟩:=grow_of_below hb_;clear hb_)|(go_at_call 83;refine (of_any ⟨ax,ay,st,W,H,G⟩ x y i j _ hi.out hj.out hs (by omega) (by omega) (by omega) (by omega)).mono ?_;rintro e w'⟨rfl,hb_⟩;obtain⟨p,rfl⟩:=grow_of_below hb_;clear hb_)|(go_at_call 67;refine (on_any ⟨ax,ay,st,W,H,G⟩ i j _ _ h2.out hs).mono ?_;rintro e w'⟨rfl,hb_⟩;obtain⟨p,rfl⟩:=grow_of_below hb_;clear hb_))
    first
     |exact bodyPost_ret (v:= .tuple #[.int .i64 0,.int .i64 0,.bool false]) (by simp[results,results62,go_sem]) rfl ⟨rfl,(by repeat' (first|with_reducible (first|exact zR _ _|exact yR _|assumption|refine zG ?_ ?_ _|refine zA ?_ ?_ _|refine zS ?_ ?_ _|refine zD ?_|refine yA ?_|refine yG ?_|refine yS ?_|refine yD ?_)|omega|(dsimp only;omega)))⟩
     |skip
    all_goals
     first|with_reducible refine wp_region_grow2 (by kernel_rfl) (by kernel_rfl) ?_|with_reducible refine wp_region_grow (by kernel_rfl) (by kernel_rfl) ?_
     repeat (first|go_big_quiet_step (fail)|quiet_step (fail))
     refine wpQuiet_nil ?_
     intro _ hw_
     obtain⟨p,hw_⟩:=hw_
     subst hw_
     go_wp2_with fail
     exact bodyPost_ret (v:= .tuple #[.int .i64 i,.int .i64 j,.bool true]) (by simp[results,results62,go_sem]) rfl ⟨rfl,(by repeat' (first|with_reducible (first|exact zR _ _|exact yR _|assumption|refine zG ?_ ?_ _|refine zA ?_ ?_ _|refine zS ?_ ?_ _|refine zD ?_|refine yA ?_|refine yG ?_|refine yS ?_|refine yD ?_)|omega|(dsimp only;omega)))⟩
 ·have hr:ofS s x y=(0,0,false):=by unfold ofS;rw[if_neg (fun h=>hc h.1)]
  rw[hr]
  clear hr
  obtain⟨c,hcc⟩:∃c,checkS s=c:=⟨_,rfl⟩
  rw[hcc] at hc
  replace hcc:=Lib.hid hcc
  obtain⟨ax,ay,st,W,H,G⟩:=s
  go_enter func62,ntmps62
  go_wp2_with (go_at_call 22;refine (check_eq hcc.out _ f0 f1).mono ?_;rintro e w'⟨rfl,hb_⟩;obtain⟨p,rfl⟩:=grow_of_below hb_;clear hb_)
  exact bodyPost_ret (v:= .tuple #[.int .i64 0,.int .i64 0,.bool false]) (by simp[results,results62,go_sem]) rfl ⟨rfl,(by repeat' (first|with_reducible (first|exact zR _ _|exact yR _|assumption|refine zG ?_ ?_ _|refine zA ?_ ?_ _|refine zS ?_ ?_ _|refine zD ?_|refine yA ?_|refine yG ?_|refine yS ?_|refine yD ?_)|omega|(dsimp only;omega)))⟩
end
section
open Go.RowKit Go.Shelf
attribute [local go_sem] Oper.semAt_some
attribute [local go_sem ↓] Go.wp_at_zero Go.wp_at_succ
theorem grownBy_of_below {w w':World}(h:Below w.heap.size w w'):w.grownBy w' none:=⟨h.os,h.tape,h.output,h.size,fun k hk _=>h.block k hk⟩
theorem ownsRow_up {W W':World}{base:Nat}{e:TypeId}{size:Nat}{v:Value}{k:Nat}{xs:List Value}(h:W.ownsRow base e size v k xs)(hb:Below W.heap.size W W'):W'.ownsRow base e size v k xs:=ownsRow_turn h (grownBy_of_below hb) (fun r e=>by cases e)
end
section
open Go.RowKit Go.Shelf Go.Maps
attribute [local go_sem] Oper.semAt_some
attribute [local go_sem ↓] Go.wp_at_zero Go.wp_at_succ
theorem zeroInt (w:World):(zeroValue 3).run prog w= .ok (.int .i64 0) w:=by kernel_rfl
end
section
open Go.RowKit Go.Shelf Go.Sort Go.Lib
attribute [local go_sem] Oper.semAt_some
def cmpS (p q:Spot):Int:=if compareInt p.2 q.2=0 then compareInt p.1 q.1 else compareInt p.2 q.2
theorem cmpCI_lt {a b:Int}:compareInt a b<0↔a<b:=by
 unfold compareInt
 split
 ·simp;assumption
 ·split <;> simp <;> omega
theorem cmpCI_eq {a b:Int}:compareInt a b=0↔a=b:=by
 unfold compareInt
 split
 ·simp;omega
 ·split <;> simp <;> omega
def ltS (p q:Spot):Bool:=decide (p.2<q.2)||(decide (p.2=q.2)&&decide (p.1<q.1))
theorem ltOf_cmpS (p q:Spot):ltOf cmpS p q=ltS p q:=by
 unfold ltOf cmpS ltS
 by_cases h:p.2=q.2
 ·rw[if_pos (cmpCI_eq.2 h)]
  simp[h,cmpCI_lt]
 ·rw[if_neg (fun e=>h (cmpCI_eq.1 e))]
  simp[h,cmpCI_lt]
theorem swoS:SWO (ltOf cmpS) where
 irrefl x:=by rw[ltOf_cmpS];simp[ltS]
 trans x y z h1 h2:=by rw[ltOf_cmpS] at *;simp[ltS] at *;omega
 ntrans x y z h1 h2:=by rw[ltOf_cmpS] at *;simp[ltS] at *;omega
theorem wp_region_grown_tail {P:Program}{id:Nat}{Q:Exit→Act→World→Prop}{a:Act}{w:World}{l:List Oper}(n:Nat)(hm:P.follows .mixedOrders=true)(hB:Region.lexTailB .any l.toArray n=true)
 (h:wpQuiet P l.toArray (fun w'=>∃p:GrownBy,w'=grow (w.drewN p.n) p.os) (fun a'=>∀w',(∃p:GrownBy,w'=grow (w.drewN p.n) p.os)→wpList P l.toArray Q (l.drop n) a' w') (l.take n) a):(Code.region id l.toArray true).wp P Q a w :=
 wp_region_tail n hm hB ⟨⟨1,#[]⟩,by rw[grow_empty];rfl⟩ h
theorem cmp_grown (x y:Int)(r:Int)(hr:compareInt x y=r)(w:World)(n:Nat)(os:Array Obj) :
 Calls prog 105 #[.int .i64 x,.int .i64 y] (grow (w.drewN n) os) fun e w''=>e= .returned (.int .i64 r)∧∃p:GrownBy,w''=grow (w.drewN p.n) p.os :=
 (Go.Proofs.Tryz.cmp_Compare_int x y _).mono fun _ _ ⟨he,hw⟩=>⟨by rw[he,hr],⟨n,os⟩,by first|exact hw|exact hw.symm⟩
theorem cmpS_any (p q:Spot)(w:World) :
 Calls prog 125 #[spotV p,spotV q] w fun e w'=>e= .returned (.int .i64 (cmpS p q))∧∃m os',w'=grow (w.drewN m) os':=by
 obtain⟨px,py⟩:=p
 obtain⟨qx,qy⟩:=q
 obtain⟨r,hr⟩:∃r,cmpS (px,py) (qx,qy)=r:=⟨_,rfl⟩
 rw[hr]
 unfold cmpS at hr
 simp only at hr
 obtain⟨c1,h1⟩:∃c,compareInt py qy=c:=⟨_,rfl⟩
 obtain⟨c2,h2⟩:∃c,compareInt px qx=c:=⟨_,rfl⟩
 rw[h1,h2] at hr
 replace h1:=Lib.hid h1
 replace h2:=Lib.hid h2
 replace hr:=Lib.hid hr
 go_enter func125,ntmps125
 go_wp2_with fail
 obtain⟨W,hW⟩:∃W,(w.alloc (.cells #[.int .i64 px,.int .i64 py] 122)).alloc (.cells #[.int .i64 qx,.int .i64 qy] 122)=W:=⟨_,rfl⟩
 have k1:=(Blk.new w #[.int .i64 px,.int .i64 py] 122).alloc (.cells #[.int .i64 qx,.int .i64 qy] 122)
 have k2:=Blk.new (w.alloc (.cells #[.int .i64 px,.int .i64 py] 122)) #[.int .i64 qx,.int .i64 qy] 122
 simp only[World.size_alloc] at k2
 rw[hW] at k1 k2 ⊢
 have f0:=fun n os=>cell_grown (a:=⟨w.heap.size,0,none⟩) k1.lt (k1.cell 0) n os
 have f1:=fun n os=>cell_grown (a:=⟨w.heap.size,1,none⟩) k1.lt (k1.cell 1) n os
 have f2:=fun n os=>cell_grown (a:=⟨w.heap.size+1,0,none⟩) k2.lt (k2.cell 0) n os
 have f3:=fun n os=>cell_grown (a:=⟨w.heap.size+1,1,none⟩) k2.lt (k2.cell 1) n os
 simp at f0 f1 f2 f3
 replace hW:=Lib.hid hW
 refine wp_region_grown_tail 10 (by kernel_rfl) (by kernel_rfl) ?_
 simp only[List.take_succ_cons,List.take_zero,List.drop_succ_cons,List.drop_zero]
 repeat (first|go_big_quiet_step ((go_at_call 105;exact cmp_grown _ _ _ (by first|with_reducible exact h1.out|with_reducible exact h2.out) _ _ _))|quiet_step ((go_at_call 105;exact cmp_grown _ _ _ (by first|with_reducible exact h1.out|with_reducible exact h2.out) _ _ _)))
 refine wpQuiet_nil ?_
 intro X hw_
 obtain⟨⟨nq,osq⟩,hw_⟩:=hw_
 replace hw_:=Lib.hid hw_
 clear f0 f1 f2 f3 k1 k2
 go_wp2_with (go_at_call 104;refine (or2_any _ _ _ hr.out _ _ (by simp) (by simp)).mono ?_;rintro e w'⟨rfl,rfl⟩)
 go_ret
 refine⟨rfl,nq,#[Obj.cells #[.int .i64 px,.int .i64 py] 122]++ #[Obj.cells #[.int .i64 qx,.int .i64 qy] 122]++osq++ #[Obj.cells #[.int .i64 c1,.int .i64 c2] 3],?_⟩
 rw[hw_.out,←hW.out]
 simp only[alloc_eq_grow,grow_grow]
 show grow (grow (w.drewN nq) _) _=_
 rw[grow_grow,Array.append_assoc,Array.append_assoc,Array.append_assoc]
theorem cmpLaysS (blk off size:Nat)(w:World):CmpLays prog 125 #[] encS 2 cmpS blk off size w:=fun _ _ _ _ x y=>cmpS_any x y _
theorem flat2:∀(ss:List Spot)(j:Nat),j<ss.length*2→(ss.flatMap encS)[j]? =some ((encS ss.toArray[j / 2]!)[j % 2]!)
 |[],j,h=>by simp at h
 |p::ss,0,_=>by simp
 |p::ss,1,_=>by simp
 |p::ss,j+2,h=>by
  have ih:=flat2 ss j (by simp at h;omega)
  have e1:(j+2) / 2=j / 2+1:=by omega
  have e2:(j+2) % 2=j % 2:=by omega
  rw[e1,e2]
  have hl:j / 2<ss.length:=by simp at h;omega
  have e3:(p::ss).toArray[j / 2+1]! =ss.toArray[j / 2]! :=by
   rw[getElem!_pos _ _ (by simpa using hl),getElem!_pos _ _ (by simpa using hl)]
   simp
  rw[e3,←ih]
  simp[List.flatMap_cons]
def RowS (n₀:Nat)(W:World)(v:Value)(ss:List Spot):Prop :=
 (v= .slice none 0 0∧ss=[])∨∃g cap,v= .slice (some ⟨g,0,none⟩) ss.length cap∧n₀≤g∧g<W.heap.size∧∀j,(h:j<ss.length)→W.cell? ⟨g,j*2,none⟩=some (.int .i64 ss[j].1)∧W.cell? ⟨g,j*2+1,none⟩=some (.int .i64 ss[j].2)
def leS (x y:Spot):Bool:= !ltS y x
def keysS (en:List (Spot×Int)):List Spot:=(en.map (·.1)).mergeSort leS
theorem keysS_perm {en:List (Spot×Int)}{ss:List Spot}(hn:(en.map (·.1)).Nodup)(h1:ss.Nodup)(h2:∀p,p∈ss↔p∈en.map (·.1)):ss.Perm (keysS en) :=
 ((List.perm_ext_iff_of_nodup h1 hn).2 h2).trans (List.mergeSort_perm _ _).symm
theorem leS_trans (a b c:Spot)(h1:leS a b=true)(h2:leS b c=true):leS a c=true:=by simp[leS,ltS] at *;omega
theorem leS_total (a b:Spot):(leS a b||leS b a)=true:=by simp[leS,ltS];omega
theorem leS_anti (a b:Spot)(h1:leS a b=true)(h2:leS b a=true):a=b:=by
 simp[leS,ltS] at h1 h2
 exact Prod.ext (by omega) (by omega)
theorem keysS_uniq {en:List (Spot×Int)}{d:List Spot}(hp:d.Perm (keysS en))(hs:d.Pairwise (fun a b=>leS a b=true)):d=keysS en :=
 List.Perm.eq_of_pairwise (le:=fun a b=>leS a b=true) (fun a b _ _=>leS_anti a b) hs (List.pairwise_mergeSort leS_trans leS_total _) hp
theorem keysS_length (en:List (Spot×Int)):(keysS en).length=en.length:=by unfold keysS;rw[List.length_mergeSort,List.length_map]
theorem sortFunc_any (base:Nat)(v:Value)(ss:List Spot)(en:List (Spot×Int))(w:World)(hrow:w.ownsRow base 122 2 v ss.length (ss.flatMap encS))(hnn:ss≠[])(hp:ss.Perm (keysS en))(hlen:ss.length≤4294967296) :
 Calls prog 161 #[v,.func (.func 125) #[] #[]] w fun e w'=>e= .returned (.tuple #[])∧RowS base w' v (keysS en)∧Below base w w':=by
 have hl0:0<ss.length:=List.length_pos_iff.2 hnn
 rcases hrow.2 with ⟨_,h0⟩|⟨g,cap,cur,rfl,hbase,hgb,hr1,hr2,hr3,hr4⟩
 ·omega
 have hg:g<w.heap.size:=(Array.getElem?_eq_some_iff.1 hgb).1
 have hH:HoldsK encS 2 w g 0 ss.toArray:=by
  intro j hj
  rw[size_flatK,List.size_toArray] at hj
  refine⟨?_,hrow.frozenAt (0+j)⟩
  rw[get_flatK _ _ _ _ (by simpa using hj),Nat.zero_add]
  exact (hrow.cellAt j (by omega)).trans (flat2 ss j hj)
 have eg:∀args w,(callFunc 125 args).run prog w= .ok (.enter 125 args) w:=enters_of func125 (by kernel_rfl) rfl
 have hcon:=AnyQ.slices_SortFunc Go.Proofs.Tryz.sortSpot 2 isAgg122 sizeOf122 encS (fun _=>rfl) (fun x v hv=>by simp at hv;rcases hv with rfl|rfl <;> rfl) cmpS swoS 125 #[] g 0 cap ss.toArray w eg (cmpLaysS g 0 ss.toArray.size w) hH hg (by simp;omega)
 change Calls prog 161 _ _ _ at hcon
 rw[List.size_toArray] at hcon
 refine hcon.mono ?_
 rintro e w'⟨rfl,d',n,os,hperm,hsort,rfl⟩
 obtain⟨hsz,-,hpm⟩:=hperm
 have hd:d'.toList=keysS en:=by
  refine keysS_uniq ?_ ?_
  ·have h1:d'.extract 0 ss.length=d':=by
    have:d'.size=ss.length:=by rw[hsz];simp
    rw[←this];exact Array.extract_size
   have h2:ss.toArray.extract 0 ss.length=ss.toArray:=by
    have:ss.toArray.size=ss.length:=by simp
    rw[←this];exact Array.extract_size
   rw[h1,h2] at hpm
   exact hpm.trans hp
  ·rw[List.pairwise_iff_getElem]
   intro i j hi hj hij
   have hj':j<d'.size:=by simpa using hj
   have hs:=hsort i j (Nat.zero_le _) hij (by rw[hsz] at hj';simpa using hj')
   rw[getElem!_pos d' j hj',getElem!_pos d' i (by omega),ltOf_cmpS] at hs
   simp[leS,hs]
 have hH2:=holdsK_sortWorldK_c encS 2 w g 0 ss.toArray d' n os hH hg (by rw[hsz])
 refine⟨rfl,.inr ⟨g,cap,?_,hbase,?_,?_⟩,?_⟩
 ·rw[keysS_length]
  have:=hp.length_eq
  rw[keysS_length] at this
  rw[this]
 ·exact Nat.lt_of_lt_of_le hg (size_sortWorldK_c encS 2 w g 0 n d' os)
 ·intro j hj
  have hjd:j<d'.size:=by rw[←Array.length_toList,hd];exact hj
  have c0:=(hH2.cell hjd (c:=0) (by omega)).1
  have c1:=(hH2.cell hjd (c:=1) (by omega)).1
  have he:d'[j]! =(keysS en)[j]:=by
   rw[getElem!_pos d' j hjd]
   simp only[←hd]
   rfl
  rw[he] at c0 c1
  simp only[Nat.zero_add,Nat.add_zero] at c0 c1
  exact⟨c0,c1⟩
 ·refine (zR base w).grown (row:=some g) ⟨rfl,rfl,rfl,size_sortWorldK_c encS 2 w g 0 n d' os,fun k hk hne=> ?_⟩ ?_ (fun k e=>by cases e;exact hbase)
  ·unfold sortWorldK
   rw[heap_grow_old _ _ (by rw[size_putRowK];exact hk)]
   have:g≠k:=fun e=>hne (by rw[e])
   simp[putRowK,putRow,mapBlock,Sort.ahead,Array.getElem?_modify,this]
  ·exact Nat.le_trans hbase (Nat.le_of_lt hg)
end
section
open Go.RowKit Go.Shelf Go.Sort Go.Lib Go.Maps
attribute [local go_sem] Oper.semAt_some
attribute [local go_sem ↓] Go.wp_at_zero Go.wp_at_succ
theorem sortedFunc_any (Bm b nn:Nat)(en:List (Spot×Int))(w:World)(hBm:Bm<w.heap.size)(hm:w.cell? ⟨Bm,0,none⟩=some (.map (some b)))(hM:MapIs w b nn en)(hnn:nn≤4294967296)(hne:en≠[])(hlen:en.length≤4294967296) :
 Calls prog 123 #[.func (.func 162) #[] #[.pointer (some ⟨Bm,0,none⟩)],.func (.func 125) #[] #[]] w fun e w'=>∃v,e= .returned v∧RowS w.heap.size w' v (keysS en)∧Below w.heap.size w w':=by
 have eg:∀args w,(callFunc 162 args).run prog w= .ok (.enter 162 args) w:=enters_of func162 (by kernel_rfl) rfl
 have hnd:(en.map (·.1)).Nodup:=by obtain⟨D,_,h,_⟩:=hM;exact h
 have hcol:=(callsIn_wide (n:=3)).1 (collect_in _ 3 trivial trivial rfl (yR _) 162 #[.pointer (some ⟨Bm,0,none⟩)] trivial eg _ _ nn hnn w (keys_stops _ 1 trivial rfl (yR _) Bm b nn en w hBm hm hM))
 go_enter func123,ntmps123
 go_wp2_with (go_at_call 160;refine hcol.mono ?_;rintro e w1⟨v,ss,rfl,⟨hs1,hs2⟩,hrow,hnl,hb1⟩)
 clear hcol
 have hp:=keysS_perm hnd hs1 hs2
 have hl:=hp.length_eq
 rw[keysS_length] at hl
 have hss:ss≠[]:=fun e=>by
  rw[e] at hl
  exact hne (List.eq_nil_of_length_eq_zero hl.symm)
 clear hs1 hs2 hnl
 have hsf:=sortFunc_any w.heap.size v ss en w1 hrow hss hp (by omega)
 go_wp2_with (go_at_call 161;refine hsf.mono ?_;rintro e w2⟨rfl,hr2,hb2⟩)
 go_ret
 exact⟨v,rfl,hr2,hb1.trans hb2⟩
structure Dt where
 x:Int
 y:Int
 k:Int
 i:Int
deriving DecidableEq
abbrev encD (d:Dt):List Value:=[.int .i64 d.x,.int .i64 d.y,.int .i64 d.k,.int .i64 d.i]
def dotsS (kind:Int)(en:List (Spot×Int)):List Dt:=(keysS en).map fun p=>⟨p.1,p.2,kind,(idOf en p).getD 0⟩
theorem dotsS_length (kind:Int)(en:List (Spot×Int)):(dotsS kind en).length=en.length:=by unfold dotsS;rw[List.length_map,keysS_length]
theorem dotInfo:(prog.info? 54).map (fun i=>(i.zero,i.size,i.bytes))=some (some (.agg #[.int .i64 0,.int .i64 0,.int .i64 0,.int .i64 0]),4,32):=by kernel_rfl
theorem MapIs.look {W:World}{b n:Nat}{en:List (Spot×Int)}(h:MapIs W b n en){p:Spot}(hp:FitS p) :
 (Instr.lookup 117 (.map (some b)) (spotV p) false).run prog W= .ok (.int .i64 ((idOf en p).getD 0)) W:=by
 obtain⟨D,ho,-,-,hk⟩:=h
 obtain⟨c,hrun,hat,-⟩:=ho.lookup_int spotLaw underlying117 underlying3 (zeroInt _) (keyOf_spot hp)
 rw[(hk p hp).2] at hat
 simp at hat
 rw[hrun,hat]
theorem MapIs.grow {W:World}{b n:Nat}{en:List (Spot×Int)}(h:MapIs W b n en)(p:Growth):MapIs (W.growBy p) b n en:=h.kept (grownBy_growBy W p) (by simp)
theorem RowS.cons {n₀:Nat}{W:World}{v:Value}{ss:List Spot}(h:RowS n₀ W v ss)(hne:ss≠[]):∃g cap,v= .slice (some ⟨g,0,none⟩) ss.length cap∧n₀≤g∧g<W.heap.size∧∀j,(h:j<ss.length)→W.cell? ⟨g,j*2,none⟩=some (.int .i64 ss[j].1)∧W.cell? ⟨g,j*2+1,none⟩=some (.int .i64 ss[j].2):=by
 rcases h with ⟨_,h⟩|h
 ·exact absurd h hne
 ·exact h
theorem keysS_ne {en:List (Spot×Int)}(h:en≠[]):keysS en≠[]:=fun e=>h (List.eq_nil_of_length_eq_zero (by rw[←keysS_length,e];rfl))
theorem ordered_any (kind:Int)(b nn:Nat)(en:List (Spot×Int))(w:World)(hM:MapIs w b nn en)(hnn:nn≤4294967296)(hne:en≠[])(hlen:en.length≤8388608) :
 Calls prog 68 #[.map (some b),.int .i64 kind] w fun e w'=>∃v base,e= .returned v∧w.heap.size≤base∧w'.ownsRow base 54 4 v (dotsS kind en).length ((dotsS kind en).flatMap encD)∧Below w.heap.size w w':=by
 obtain⟨i0,hi0,hz0,hz1,hz2⟩:=info_parts dotInfo
 have hb:=hM.lt
 have hkeys:=fun mb W=>(callsIn_wide (n:=1)).1 (keys_in _ 1 trivial rfl mb W)
 have hsf:=sortedFunc_any w.heap.size b nn en (w.alloc (.cells #[.map (some b)] 117)) (by simp) (by simp) (hM.alloc _) hnn hne (by omega)
 simp only[World.size_alloc] at hsf
 go_enter func68,ntmps68
 go_wp2_with (first|(go_at_call 124;refine (hkeys _ _).mono ?_;rintro e w1⟨rfl,rfl⟩)|(go_at_call 123;refine hsf.mono ?_;rintro e w2⟨v,rfl,hr2,hb2⟩;obtain⟨g,cap,rfl,hg0,hg1,hcs⟩:=hr2.cons (keysS_ne hne)))
 clear hsf hkeys
 have hB2:RowKit.Below w.heap.size w w2:=Below.trans (b:=w.alloc (.cells #[.map (some b)] 117)) (by repeat' (first|with_reducible (first|exact zR _ _|exact yR _|assumption|refine zG ?_ ?_ _|refine zA ?_ ?_ _|refine zS ?_ ?_ _|refine zD ?_|refine yA ?_|refine yG ?_|refine yS ?_|refine yD ?_)|omega|(dsimp only;omega))) (hb2.mono (by repeat' (first|with_reducible (first|exact zR _ _|exact yR _|assumption|refine zG ?_ ?_ _|refine zA ?_ ?_ _|refine zS ?_ ?_ _|refine zD ?_|refine yA ?_|refine yG ?_|refine yS ?_|refine yD ?_)|omega|(dsimp only;omega))))
 have hM2:=hM.below hB2 hb
 have hs2:=hB2.size
 have hfit:∀e∈en,FitS e.1:=by obtain⟨D,_,_,h,_⟩:=hM;exact h
 have hkl:=Lib.hid (keysS_length en)
 have hkb:(keysS en).length≤8388608:=by rw[hkl.out];exact hlen
 have hfk:∀p∈keysS en,FitS p:=fun p hp=>by
  have:=(List.mergeSort_perm _ _).mem_iff.1 hp
  obtain⟨e,he,rfl⟩:=List.mem_map.1 this
  exact hfit e he
 clear hb2 hM hfit
 go_loopw [4,13] (fun u i wr=>∃(k:Nat) (v:Value),k≤(keysS en).length∧u=v∧i= .int .i64 k∧wr.ownsRow w2.heap.size 54 4 v k (((dotsS kind en).take k).flatMap encD)∧RowKit.Below w2.heap.size w2 wr)
  (fun _ i _=>(keysS en).length-(intOf i).toNat)
 case atStart=>exact⟨0,_,Nat.zero_le _,rfl,rfl,⟨by simp,.inl ⟨rfl,rfl⟩⟩,zR _ _⟩
 case round =>
  obtain⟨k,v,hk,rfl,rfl,hrow,hnx⟩:=hrel
  have hsw:=hnx.size
  by_cases hlt:k<(keysS en).length
  ·have hltI:(k:Int)<((keysS en).length:Int):=by omega
   obtain⟨c0,c1⟩:=hcs k hlt
   have c0:=(hnx.cell (p:=⟨g,k*2,none⟩) hg1).trans c0
   have c1:=(hnx.cell (p:=⟨g,k*2+1,none⟩) hg1).trans c1
   have hpk:=hfk _ (List.getElem_mem hlt)
   have hd:(dotsS kind en)[k]? =some ⟨(keysS en)[k].1,(keysS en)[k].2,kind,(idOf en (keysS en)[k]).getD 0⟩:=by
    unfold dotsS
    rw[List.getElem?_map,List.getElem?_eq_getElem hlt]
    rfl
   generalize hp:(keysS en)[k]=p at c0 c1 hpk hd
   clear hp
   obtain⟨px,py⟩:=p
   simp only at c0 c1 hd
   obtain⟨id,hid⟩:∃id,(idOf en (px,py)).getD 0=id:=⟨_,rfl⟩
   rw[hid] at hd
   have hw1:=hM2.below hnx hM2.lt
   go_wp2_with fail
   obtain⟨W,hW⟩:∃W,wr.alloc (.cells #[.int .i64 px,.int .i64 py] 122)=W:=⟨_,rfl⟩
   have bX:Blk W wr.heap.size #[.int .i64 px,.int .i64 py] 122:=by rw[←hW];exact Blk.new wr _ _
   have hrowW:W.ownsRow w2.heap.size 54 4 u4 k (((dotsS kind en).take k).flatMap encD):=by rw[←hW];exact hrow.alloc _
   have hMW:MapIs W b nn en:=by rw[←hW];exact hw1.alloc _
   have hnW:RowKit.Below w2.heap.size w2 W:=by rw[←hW];exact hnx.alloc hsw _
   have hsW:=hnW.size
   have hlk:(Instr.lookup 117 (.map (some b)) (.agg #[.int .i64 px,.int .i64 py]) false).run prog W.drew= .ok (.int .i64 id) W.drew:=by
    have:=(show MapIs W.drew b nn en from hMW).look hpk
    rw[hid] at this
    exact this
   have hrowD:W.drew.ownsRow w2.heap.size 54 4 u4 k (((dotsS kind en).take k).flatMap encD):=hrowW
   have hnD:RowKit.Below w2.heap.size w2 W.drew:=hnW.drew
   have hsD:W.drew.heap.size=W.heap.size:=rfl
   have x0:W.drew.cell? ⟨wr.heap.size,0,none⟩=some (.int .i64 px):=bX.cell 0
   have x1:W.drew.cell? ⟨wr.heap.size,1,none⟩=some (.int .i64 py):=bX.cell 1
   rw[hW]
   clear hW hrow hw1 c0 c1
   generalize wr.heap.size=Bx at *
   go_region_law (refine step_append_lies _ (by rfl) _ _ _ (by rfl) w2.heap.size 54 i0 _ 4 32 underlying41 hi0 hz0 hz1 hz2 rfl (by omega) u4 k _ (by rfl) (hrowD.alloc _) _ 1 1 _ (by rfl) ?_ (World.news_of_block (heap_alloc_new _ _)) (by simp[Value.oneCell']) (by omega) (by unfold maxLen;omega) (by omega) (by simp;omega) _ rfl ?_;rfl;intro g2 cap2 w3 hown3 hgrow3 hat3 hlt3)
   all_goals
    clear hlk hrowD x0 x1
    have hB3:RowKit.Below w2.heap.size w2 w3:=by
     exact ((hnW.alloc hsW (.cells #[.int .i64 px,.int .i64 py,.int .i64 kind,.int .i64 id] 54)).drew).grown hgrow3 (by show w2.heap.size≤(W.alloc _).heap.size;simp;omega) (fun r e=>(hrowW.lt r e).1)
    have htk:((dotsS kind en).take (k+1)).flatMap encD=((dotsS kind en).take k).flatMap encD++encD ⟨px,py,kind,id⟩:=by
     rw[List.take_add_one,hd]
     simp[List.flatMap_append]
    go_wp2_with fail
    go_roundw
    case rel=>exact⟨k+1,_,by omega,rfl,by go_num,by rw[htk];exact hown3,hB3⟩
    case measure=>simp[intOf];omega
  ·obtain rfl:k=(keysS en).length:=by omega
   go_wp2_with fail
   go_ret
   refine⟨u4,w2.heap.size,rfl,hs2,?_,hB2.trans (hnx.mono hs2)⟩
   have hl:(dotsS kind en).length=(keysS en).length:=by rw[dotsS_length,hkl.out]
   rw[hl]
   rw[←hl,List.take_length,hl] at hrow
   exact hrow
end
section
open Go.RowKit Go.Shelf Go.Lib Go.Sort
attribute [local go_sem] Oper.semAt_some
attribute [local go_sem ↓] Go.wp_at_zero Go.wp_at_succ
theorem insertS_any (blk off cap N n:Nat)(d:Array Pc)(w:World)(hW:SoW w blk off N n d w)(hn:n≤1000) :
 Calls prog 170 #[.slice (some ⟨blk,off,none⟩) n cap,.int .i64 0,.int .i64 (n:Nat),.func (.func 103) #[] #[]] w fun e w'=>e= .returned (.tuple #[])∧SoW w blk off N n (insertionSort (ltOf cmpP) d 0 n) w':=by
 have mixed:prog.follows .mixedOrders=true:=by kernel_rfl
 have HW:Hid (SoW w blk off N n d w):=hW
 clear hW
 go_enter func170,ntmps170
 go_wp2_with fail
 go_loopw [8] (fun vi wr=>∃(i:Nat) (dk:Array Pc),vi= .int .i64 (i:Nat)∧1≤i∧i≤n+1∧Hid (SoW w blk off N n dk wr)∧Hid (insOuter (ltOf cmpP) 0 n i dk=insOuter (ltOf cmpP) 0 n 1 d)) (fun vi _=>n+1-(intOf vi).toNat)
 case atStart=>exact⟨1,d,rfl,by omega,by omega,HW,rfl⟩
 case round =>
  obtain⟨i,dk,rfl,hi1,hin,HR,HO⟩:=hrel
  by_cases hlt:i<n
  ·have hltI:(i:Int)<(n:Int):=by omega
   go_wp2_with fail
   go_loopw [9] (fun vj wr2=>∃(j:Nat) (dj:Array Pc),vj= .int .i64 (j:Nat)∧j≤i∧Hid (SoW w blk off N n dj wr2)∧Hid (insInner (ltOf cmpP) 0 j dj=insInner (ltOf cmpP) 0 i dk)) (fun vj _=>(intOf vj).toNat)
   case atStart=>exact⟨i,dk,rfl,by omega,HR,rfl⟩
   case round =>
    obtain⟨j,dj,rfl,hji,HJ,HI⟩:=hrel
    have out:Hid ((j=0∨ltOf cmpP dj[j]! dj[j-1]! =false)→insOuter (ltOf cmpP) 0 n (i+1) dj=insOuter (ltOf cmpP) 0 n 1 d):=fun hs=>by
     rw[←HO.out,insOuter_go _ _ _ _ _ hlt,←HI.out,insInner_stop _ _ _ _ (hs.imp (fun e=>by omega) id)]
    by_cases hj0:0<j
    ·have hj0I:(0:Int)<(j:Int):=by omega
     obtain⟨jp,rfl⟩:∃jp,j=jp+1:=⟨j-1,by omega⟩
     have hjn:jp+1<dj.size:=by rw[HJ.out.sz];omega
     obtain⟨xj,hxj⟩:∃x,dj[jp+1]! =x:=⟨_,rfl⟩
     obtain⟨xp,hxp⟩:∃x,dj[jp]! =x:=⟨_,rfl⟩
     obtain⟨a0,a1,a2,a3,a4,a5,a6⟩:=hxj▸HJ.out.row.pc hjn
     obtain⟨b0,b1,b2,b3,b4,b5,b6⟩:=hxp▸HJ.out.row.pc (j:=jp) (by omega)
     have HX:Hid (dj[jp+1]! =xj∧dj[jp]! =xp):=⟨hxj,hxp⟩
     obtain⟨cv,hcv⟩:∃c,cmpP xj xp=c:=⟨_,rfl⟩
     have hcmp:∀W,Calls prog 103 #[plV xj,plV xp] W fun e w'=>e= .returned (.int .i64 cv)∧Below W.heap.size W w':=fun W=>by rw[←hcv];exact cmpPl_any xj xp W
     have HC:Hid (cmpP xj xp=cv):=hcv
     clear hxj hxp hcv
     obtain⟨i1,x1,y1,cl1,n1,wt1,d1⟩:=xj
     obtain⟨i2,x2,y2,cl2,n2,wt2,d2⟩:=xp
     have hwp:IntKind.i64.wrap (jp:Int)=(jp:Int):=by rw[IntKind.wrap_i64];omega
     have hjnI:(jp:Int)+1<(n:Int):=by omega
     have hjnI2:(jp:Int)<(n:Int):=by omega
     have hp0:(0:Int)≤(jp:Int)+1:=by omega
     have he0:((jp:Int)+1).toNat=jp+1:=by omega
     by_cases hlv:cv<0
     ·go_wp2_with fail
      first|with_reducible refine wp_region_grow2 (by kernel_rfl) (by kernel_rfl) ?_|with_reducible refine wp_region_grow (by kernel_rfl) (by kernel_rfl) ?_
      repeat (first|go_big_quiet_step ((go_at_call 103;exact Calls.grow_of (hcmp _)))|quiet_step ((go_at_call 103;exact Calls.grow_of (hcmp _))))
      refine wpQuiet_nil ?_
      intro _ hw_
      obtain⟨p,hw_⟩:=hw_
      subst hw_
      go_upto_region 6 with fail
      obtain⟨W2,hW2⟩:∃W,wr.growBy p=W:=⟨_,rfl⟩
      rw[hW2]
      have HJ2:SoW w blk off N n dj W2:=by rw[←hW2];exact HJ.out.below (below_growBy _ _)
      clear a0 a1 a2 a3 a4 a5 a6 b0 b1 b2 b3 b4 b5 b6 hW2 hcmp
      obtain⟨a0,a1,a2,a3,a4,a5,a6⟩:=HX.out.1▸HJ2.row.pc hjn
      obtain⟨b0,b1,b2,b3,b4,b5,b6⟩:=HX.out.2▸HJ2.row.pc (j:=jp) (by omega)
      obtain⟨f0,f1,f2,f3,f4,f5,f6⟩:=HJ2.row.pf hjn
      obtain⟨g0,g1,g2,g3,g4,g5,g6⟩:=HJ2.row.pf (j:=jp) (by omega)
      have HJ3:=Lib.hid (HJ2.swap (j:=jp) (by omega))
      have hjj:jp+1<n:=by omega
      replace HJ2:=Lib.hid HJ2
      simp only at a0 a1 a2 a3 a4 a5 a6 b0 b1 b2 b3 b4 b5 b6
      go_big_region_o
      all_goals go_wp2_with fail
      go_roundw
      case rel =>
       refine⟨jp,swp dj (jp+1) jp,by go_num,by omega,?_,?_⟩
       ·have h3:=HJ3.out
        unfold swapW at h3
        rw[HX.out.1,HX.out.2,swap_out] at h3
        exact Lib.hid h3.drew
       ·show _=_
        have h4:=insInner_go (ltOf cmpP) 0 (jp+1) dj (by omega) (by rw[HX.out.1,show jp+1-1=jp from rfl,HX.out.2,cmpLt,HC.out];exact hlv)
        rw[←HI.out,h4]
        rfl
      case measure=>first|(simp[intOf];done)|(simp[intOf];omega)
     ·go_wp2_with fail
      first|with_reducible refine wp_region_grow2 (by kernel_rfl) (by kernel_rfl) ?_|with_reducible refine wp_region_grow (by kernel_rfl) (by kernel_rfl) ?_
      repeat (first|go_big_quiet_step ((go_at_call 103;exact Calls.grow_of (hcmp _)))|quiet_step ((go_at_call 103;exact Calls.grow_of (hcmp _))))
      refine wpQuiet_nil ?_
      intro _ hw_
      obtain⟨p,hw_⟩:=hw_
      subst hw_
      go_wp2_with fail
      go_roundw
      case rel=>exact⟨i+1,dj,by go_num,by omega,by omega,HJ.out.below (below_growBy _ _),out.out (.inr (by show decide _=false;rw[HX.out.1,show jp+1-1=jp from rfl,HX.out.2,HC.out];exact decide_eq_false (by omega)))⟩
      case measure=>first|(simp[intOf];done)|(simp[intOf];omega)
    ·obtain rfl:j=0:=by omega
     have hj0I:¬(0:Int)<((0:Nat):Int):=by omega
     have hSo:=out.out (.inl rfl)
     go_wp2_with fail
     go_big_region_o
     all_goals go_wp2_with fail
     go_roundw
     case rel=>exact⟨i+1,dj,by go_num,by omega,by omega,Lib.hid HJ.out.drew,hSo⟩
     case measure=>first|(simp[intOf];done)|(simp[intOf];omega)
  ·have hgeI:¬(i:Int)<(n:Int):=by omega
   go_wp2_with fail
   go_end0
   have h5:=HO.out
   rw[insOuter_stop _ _ _ _ _ hlt] at h5
   refine⟨rfl,?_⟩
   unfold insertionSort
   rw[←h5]
   exact HR.out
def sortP (l:List Pc):List Pc:=(insertionSort (ltOf cmpP) l.toArray 0 l.length).toList
theorem sortP_nil:sortP []=[]:=by
 unfold sortP insertionSort
 rw[insOuter_stop _ _ _ _ _ (by simp)]
theorem flatK_at (d:Array Pc)(t:Nat)(ht:t<d.size*7):(d.toList.flatMap plE.enc)[t]? =some (flatK plE.enc 7 d)[t]! :=by
 have hq:t / 7<d.toList.length:=by simp;omega
 have hr:t % 7<7:=Nat.mod_lt _ (by decide)
 have e1:t / 7*7+t % 7=t:=by omega
 have h2:=flat_at plOk d.toList (t / 7) (t % 7) hq hr
 rw[show plE.s=7 from rfl,e1] at h2
 rw[h2,get_flatK _ _ _ _ ht]
 have hqa:t / 7<d.size:=by omega
 rw[getElem!_pos d (t / 7) hqa]
 have hl:t % 7<(plE.enc d[t / 7]).length:=hr
 rw[getElem!_pos (plE.enc d[t / 7]) (t % 7) hl]
 simp only[Array.getElem_toList]
 exact List.getElem?_eq_getElem hl
theorem sow_of_row {w:World}{base g cap:Nat}{l:List Pc}(h:w.ownsRow base 66 7 (.slice (some ⟨g,0,none⟩) l.length cap) l.length (l.flatMap plE.enc)):SoW w g 0 (cap*7) l.length l.toArray w∧base≤g:=by
 rcases h.2 with ⟨e,-⟩|⟨g',cap',cur,e,hb,hg,h1,h2,h3,h4⟩
 ·cases e
 ·simp only[Value.slice.injEq,Option.some.injEq,Addr.mk.injEq,and_true,true_and] at e
  obtain⟨rfl,rfl⟩:=e
  refine⟨⟨fun t ht=>⟨?_,(show Blk w g cur 66 from hg).frozen _⟩,⟨cur,hg,h3⟩,⟨rfl,rfl,rfl,yR _,fun _ _ _=>rfl⟩,by simp⟩,hb⟩
  have ht':t<l.length*7:=by simpa using ht
  have h5:=flatK_at l.toArray t (by simpa using ht')
  simp only at h5
  have h6:=h.cellAt t ht'
  rw[h5] at h6
  simpa using h6
theorem row_of_sow {w W:World}{base g cap n:Nat}{d:Array Pc}(h:SoW w g 0 (cap*7) n d W)(hb:base≤g)(hc:n≤cap)(hm:cap≤maxLen):W.ownsRow base 66 7 (.slice (some ⟨g,0,none⟩) n cap) n (d.toList.flatMap plE.enc):=by
 obtain⟨hr,⟨cur,hk,hs⟩,-,hz⟩:=h
 have hlen:(d.toList.flatMap plE.enc).length=n*7:=by rw[flat_length plOk];simp[hz]
 refine⟨hlen,.inr ⟨g,cap,cur,rfl,hb,hk,hc,hm,hs,?_⟩⟩
 refine List.ext_getElem? fun t=> ?_
 by_cases ht:t<n*7
 ·rw[List.getElem?_take_of_lt ht,flatK_at d t (by rw[hz];exact ht)]
  have h1:=(hr t (by rw[size_flatK,hz];exact ht)).1
  rw[Nat.zero_add,hk.cell t] at h1
  simpa using h1
 ·rw[List.getElem?_eq_none (by simp;omega),List.getElem?_eq_none (by omega)]
theorem insert0_any (a:Option Addr)(n c:Nat)(fv:Value)(w:World):Calls prog 170 #[.slice a n c,.int .i64 0,.int .i64 0,fv] w fun e w'=>e= .returned (.tuple #[])∧w=w':=by
 go_enter func170,ntmps170
 go_wp2_with fail
 refine wp_loop_rounds 1 ?_
 rw[rounds_succ]
 go_wp2_with fail
 go_end0
 exact⟨rfl,rfl⟩
theorem stable_any (v fv:Value)(n:Nat)(hn:n≤19)(w:World)(K:World→Prop)(h:Calls prog 170 #[v,.int .i64 0,.int .i64 (n:Nat),fv] w fun e w'=>e= .returned (.tuple #[])∧K w') :
 Calls prog 150 #[v,.int .i64 (n:Nat),fv] w fun e w'=>e= .returned (.tuple #[])∧K w':=by
 have hnI:¬(20:Int)≤(n:Int):=by omega
 have hnI2:¬(20:Int)<(n:Int):=by omega
 have mixed:prog.follows .mixedOrders=true:=by kernel_rfl
 go_enter func150,ntmps150
 go_wp2_with fail
 refine wp_loop_rounds 1 ?_
 rw[rounds_succ]
 go_wp2_with (go_at_call 170;refine h.mono ?_;rintro e w1⟨rfl,hK⟩)
 refine wp_loop_rounds 1 ?_
 rw[rounds_succ]
 go_wp2_with fail
 go_end0
 exact⟨rfl,hK⟩
theorem sort_of {base g cap:Nat}{l:List Pc}{w:World}{fv:Value}(hl:l.length≤19)(hrow:w.ownsRow base 66 7 (.slice (some ⟨g,0,none⟩) l.length cap) l.length (l.flatMap plE.enc))(hc:l.length≤cap)(hm:cap≤maxLen)
 (hins:SoW w g 0 (cap*7) l.length l.toArray w→Calls prog 170 #[.slice (some ⟨g,0,none⟩) l.length cap,.int .i64 0,.int .i64 (l.length:Nat),fv] w fun e w'=>e= .returned (.tuple #[])∧SoW w g 0 (cap*7) l.length (insertionSort (ltOf cmpP) l.toArray 0 l.length) w') :
 Calls prog 150 #[.slice (some ⟨g,0,none⟩) l.length cap,.int .i64 (l.length:Nat),fv] w fun e w'=>e= .returned (.tuple #[])∧w'.ownsRow base 66 7 (.slice (some ⟨g,0,none⟩) l.length cap) l.length ((sortP l).flatMap plE.enc)∧w.grownBy w' (some g):=by
 obtain⟨hS,hb⟩:=sow_of_row hrow
 refine stable_any _ fv l.length hl w _ ((hins hS).mono ?_)
 rintro e w'⟨rfl,h⟩
 exact⟨rfl,row_of_sow h hb hc hm,h.gr⟩
theorem sortStable_S (base:Nat)(v:Value)(l:List Pc)(w:World)(hl:l.length≤19)(hrow:w.ownsRow base 66 7 v l.length (l.flatMap plE.enc)) :
 Calls prog 102 #[v,.func (.func 103) #[] #[]] w fun e w'=>e= .returned (.tuple #[])∧w'.ownsRow base 66 7 v l.length ((sortP l).flatMap plE.enc)∧w.grownBy w' v.ownBlock:=by
 rcases hrow.2 with ⟨rfl,h0⟩|⟨g,cap,cur,rfl,hb,hg,h1,h2,h3,h4⟩
 ·obtain rfl:=List.eq_nil_of_length_eq_zero h0
  have c1:=stable_any (.slice none 0 0) (.func (.func 103) #[] #[]) 0 (by omega) w (fun w'=>w=w') (insert0_any none 0 0 _ w)
  have hr2:=Lib.hid hrow
  clear hrow h0
  go_enter func102,ntmps102
  go_wp2_with (go_at_call 150;refine c1.mono ?_;rintro e w1⟨rfl,rfl⟩)
  go_end0
  exact⟨rfl,by rw[sortP_nil];exact hr2.out,⟨rfl,rfl,rfl,yR _,fun _ _ _=>rfl⟩⟩
 ·have c1:=sort_of hl hrow h1 h2 (fun hS=>insertS_any g 0 cap (cap*7) l.length l.toArray w hS (by omega))
  clear hrow hg h3 h4
  go_enter func102,ntmps102
  go_wp2_with (go_at_call 150;refine c1.mono ?_;rintro e w1⟨rfl,hr2,hg2⟩)
  go_end0
  exact⟨rfl,hr2,hg2⟩
end
end Go.Proofs.YtfocdbjceedagaaGreatDoor
