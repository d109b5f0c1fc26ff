/-
  Parts.
-/
import Derived.Test.YtfocdbjceedagaaGreatDoorXba
import Derived.Laws.Tables
set_option linter.unusedVariables false
set_option linter.unusedSimpArgs false
set_option maxHeartbeats 8000000
set_option maxRecDepth 100000
namespace Go.Proofs.YtfocdbjceedagaaGreatDoor
open Tryz
section
open Go.RowKit Go.Shelf
attribute [local go_sem] Oper.semAt_some
attribute [local go_sem ↓] Go.wp_at_zero Go.wp_at_succ
structure On3 (wr:World)(B3 B4 B5:Nat)(ax ay ad bx by_ bd px py:Int)(W:World):Prop where
 bel:Below wr.heap.size wr W
 a:Blk W B3 #[.int .i64 ax,.int .i64 ay,.int .i64 ad] 245
 b:Blk W B4 #[.int .i64 bx,.int .i64 by_,.int .i64 bd] 245
 p:Blk W B5 #[.int .i64 px,.int .i64 py] 26
theorem On3.up {wr W W':World}{B3 B4 B5:Nat}{ax ay ad bx by_ bd px py:Int}(h:On3 wr B3 B4 B5 ax ay ad bx by_ bd px py W)(hb:Below W.heap.size W W'):On3 wr B3 B4 B5 ax ay ad bx by_ bd px py W' :=
 ⟨h.bel.trans (hb.mono h.bel.size),h.a.below hb h.a.lt,h.b.below hb h.b.lt,h.p.below hb h.p.lt⟩
def FOn (B3 B4 B5:Nat)(ax ay ad bx by_ bd px py:Int)(i:Nat)(v:Value)(w:World):Prop :=
 match i with
 |0=>v= .agg #[.int .i64 ax,.int .i64 ay,.int .i64 ad]
 |1=>v= .agg #[.int .i64 bx,.int .i64 by_,.int .i64 bd]
 |2=>v= .agg #[.int .i64 px,.int .i64 py]
 |3=>v= .agg #[.int .i64 px,.int .i64 py,.int .i64 1]
 |4=>∃x,v= .int .i64 x
 |_=>False
theorem FOn.kept {B3 B4 B5:Nat}{ax ay ad bx by_ bd px py:Int}{i:Nat}{v:Value}{w w':World}(h:FOn B3 B4 B5 ax ay ad bx by_ bd px py i v w)(hg:Below w.heap.size w w'):FOn B3 B4 B5 ax ay ad bx by_ bd px py i v w':=by
 unfold FOn at *;split at h
 all_goals first|exact h|(exact h)
theorem d1w (ax ay ad bx by_ bd px py:Int)(w:World)(f0:a0k ax)(f1:a0k ay)(f2:a0k ad)(f3:a0k bx)(f4:a0k by_)(f5:a0k bd)(f6:a0k px)(f7:a0k py) :
 Calls prog 184 #[.agg #[.int .i64 ax,.int .i64 ay,.int .i64 ad],.agg #[.int .i64 bx,.int .i64 by_,.int .i64 bd],.agg #[.int .i64 px,.int .i64 py]] w fun e w'=>d3g e∧Below w.heap.size w w':=by
 go_enter func184,ntmps184;go_upto_region 1 with fail;have hm:On3 w w.heap.size (w.heap.size+1) (w.heap.size+1+1) ax ay ad bx by_ bd px py (((w.alloc (.cells #[.int .i64 ax,.int .i64 ay,.int .i64 ad] 245)).alloc (.cells #[.int .i64 bx,.int .i64 by_,.int .i64 bd] 245)).alloc (.cells #[.int .i64 px,.int .i64 py] 26)):=by
  have k1:=Blk.new (w.alloc (.cells #[.int .i64 ax,.int .i64 ay,.int .i64 ad] 245)) #[.int .i64 bx,.int .i64 by_,.int .i64 bd] 245;have k2:=Blk.new ((w.alloc (.cells #[.int .i64 ax,.int .i64 ay,.int .i64 ad] 245)).alloc (.cells #[.int .i64 bx,.int .i64 by_,.int .i64 bd] 245)) #[.int .i64 px,.int .i64 py] 26;simp only[World.size_alloc] at k1 k2;exact⟨zC,((Blk.new w _ _).alloc _).alloc _,k1.alloc _,k2⟩
 obtain⟨W1,hW1⟩:∃W,(((w.alloc (.cells #[.int .i64 ax,.int .i64 ay,.int .i64 ad] 245)).alloc (.cells #[.int .i64 bx,.int .i64 by_,.int .i64 bd] 245)).alloc (.cells #[.int .i64 px,.int .i64 py] 26))=W:=⟨_,rfl⟩;obtain⟨B5,hB5⟩:∃b,w.heap.size+1+1=b:=⟨_,rfl⟩;obtain⟨B4,hB4⟩:∃b,w.heap.size+1=b:=⟨_,rfl⟩;obtain⟨B3,hB3⟩:∃b,w.heap.size=b:=⟨_,rfl⟩;rw[hW1,hB5,hB4] at hm;rw[hW1,hB5,hB4];have hm1:On3 w B3 B4 B5 ax ay ad bx by_ bd px py W1:=hB3▸hm;rw[hB3];clear hm hW1 hB5 hB4 hB3;refine Go.wp_region_rel 5 (by kernel_rfl) (by kernel_rfl) (fun _ W=>On3 w B3 B4 B5 ax ay ad bx by_ bd px py W) (fun w w'=>Below w.heap.size w w') (FOn B3 B4 B5 ax ay ad bx by_ bd px py) (fun _ _ _ _ h g=>h.kept g) (hm1.up (zR _ _).drew) ?_ ?_
 ·clear hm1
  intro i o hi ho c bb W hc hM hA hD K hK;match i,hi,ho with
  |0,_,ho =>
   cases ho;have f3:=a0a (v:= .pointer (some ⟨B3,0,none⟩)) (hA.at_ (k:=3) (by kernel_rfl));have z0:W.cell? ⟨B3,0,none⟩=some (.int .i64 ax):=hM.a.cell 0;have z1:W.cell? ⟨B3,1,none⟩=some (.int .i64 ay):=hM.a.cell 1;have z2:W.cell? ⟨B3,2,none⟩=some (.int .i64 ad):=hM.a.cell 2;go_simp;exact hK (.agg #[.int .i64 ax,.int .i64 ay,.int .i64 ad]) W rfl (zR _ _) hM
  |1,_,ho =>
   cases ho;have f4:=a0a (v:= .pointer (some ⟨B4,0,none⟩)) (hA.at_ (k:=4) (by kernel_rfl));have z0:W.cell? ⟨B4,0,none⟩=some (.int .i64 bx):=hM.b.cell 0;have z1:W.cell? ⟨B4,1,none⟩=some (.int .i64 by_):=hM.b.cell 1;have z2:W.cell? ⟨B4,2,none⟩=some (.int .i64 bd):=hM.b.cell 2;go_simp;exact hK (.agg #[.int .i64 bx,.int .i64 by_,.int .i64 bd]) W rfl (zR _ _) hM
  |2,_,ho =>
   cases ho;have f5:=a0a (v:= .pointer (some ⟨B5,0,none⟩)) (hA.at_ (k:=5) (by kernel_rfl));have z0:W.cell? ⟨B5,0,none⟩=some (.int .i64 px):=hM.p.cell 0;have z1:W.cell? ⟨B5,1,none⟩=some (.int .i64 py):=hM.p.cell 1;go_simp;exact hK (.agg #[.int .i64 px,.int .i64 py]) W rfl (zR _ _) hM
  |3,_,ho =>
   cases ho;have f11:=a0a (v:= .agg #[.int .i64 px,.int .i64 py]) (a0i hD 2 11 (by kernel_rfl) rfl rfl);go_simp;refine (a6f px py W).mono ?_;rintro e W'⟨rfl,hb⟩;go_simp;exact hK (.agg #[.int .i64 px,.int .i64 py,.int .i64 1]) W' rfl hb (hM.up hb)
  |4,_,ho =>
   cases ho;have f9:=a0a (v:= .agg #[.int .i64 ax,.int .i64 ay,.int .i64 ad]) (a0i hD 0 9 (by kernel_rfl) rfl rfl);have f10:=a0a (v:= .agg #[.int .i64 bx,.int .i64 by_,.int .i64 bd]) (a0i hD 1 10 (by kernel_rfl) rfl rfl);have f12:=a0a (v:= .agg #[.int .i64 px,.int .i64 py,.int .i64 1]) (a0i hD 3 12 (by kernel_rfl) rfl rfl);go_simp;refine (a5y _ _ _ _ _ _ _ _ _ W).mono ?_;rintro e W'⟨⟨x,rfl⟩,hb⟩;go_simp;exact hK (.int .i64 x) W' ⟨x,rfl⟩ hb (hM.up hb)
  |i+5,hi,_=>exact absurd hi (by omega)
 ·intro bb W hM hA hall
  obtain⟨X,hP4⟩:=(show ∃x,bb.eval (.tmp 13)= .int .i64 x from hall 4 (by omega) _ _ rfl rfl);have hfr:=hA.frame [T,T,T,T,T,T,T,T,T,F,F,F,F,F,T,T,T,T,T,T,T,T,T,T,T,T,T,T,T,T,T,T,T,T,T,T,T,T,T,T,T,T,T,T,T,T,T] _ rfl (by kernel_rfl);clear hall hA hm1;obtain⟨f,hf⟩:∃f:Nat→Value,(fun k=>bb.tmps.getD k undef)=f:=⟨_,rfl⟩;have g13:f 13= .int .i64 X:=by rw[←hf,←hP4];rfl
  rw[hf] at hfr;clear hf hP4;subst hfr;simp only[a2k,g13,Nat.reduceAdd];clear g13;simp only[List.drop_succ_cons,List.drop_zero];obtain⟨bel,ka,kb,kp⟩:=hM;obtain⟨a0,a1,a2⟩:=st3 ka;obtain⟨b0,b1,b2⟩:=st3 kb;obtain⟨p0,p1,-,-⟩:=pt2 kp;clear ka kb kp;by_cases hX:X=0
  ·have hXb:(X != 0)=false:=by simp[hX]
   go_wp2_with (first
    |(go_at_call 203;refine (c6a _ _ _ _ _ _ (by assumption) (by assumption) (by assumption) (by assumption) (by assumption)).mono ?_;rintro e w'⟨⟨r,rfl⟩,hb_⟩;obtain⟨p,rfl⟩:=a0e hb_;clear hb_)
    |fail)
   all_goals
    go_ret;exact⟨⟨_,rfl⟩,bel.trans (Below.mono zC bel.size)⟩
  ·have hXb:(X != 0)=true:=by simp[hX]
   go_wp2_with fail;go_ret;exact⟨⟨_,rfl⟩,bel⟩
theorem b9r (ax ay ad bx by_ bd px py:Int)(w:World)(f1:a0k ay)(f2:a0k ad)(f4:a0k by_)(f5:a0k bd)(f7:a0k py) :
 Calls prog 185 #[.agg #[.int .i64 ax,.int .i64 ay,.int .i64 ad],.agg #[.int .i64 bx,.int .i64 by_,.int .i64 bd],.agg #[.int .i64 px,.int .i64 py]] w fun e w'=>d3p e∧Below w.heap.size w w':=by
 go_enter func185,ntmps185;go_wp2_with (first
  |(go_at_call 183;refine (a6f _ _ _).mono ?_;rintro e w'⟨rfl,hb_⟩;obtain⟨p,rfl⟩:=a0e hb_;clear hb_)
  |(go_at_call 204;refine (c5z _ _ _ _ _ _ (by assumption) (by assumption) (by assumption)).mono ?_;rintro e w'⟨⟨b,rfl⟩,hb_⟩;obtain⟨p,rfl⟩:=a0e hb_;clear hb_)
  |(go_at_call 202;refine (a5y _ _ _ _ _ _ _ _ _ _).mono ?_;rintro e w'⟨⟨r,rfl⟩,hb_⟩;obtain⟨p,rfl⟩:=a0e hb_;clear hb_)
  |fail)
 all_goals
  go_ret;exact⟨⟨_,rfl⟩,zC⟩
theorem b3j (a0 a1 a2 a3 a4 a5 a6 b0 b1 b2 b3 b4 b5 b6:Int)(w:World)(f1:a0k a1)(f2:a0k a2)(f4:a0k b1)(f5:a0k b2) :
 Calls prog 186 #[.agg #[.int .i64 a0,.int .i64 a1,.int .i64 a2,.int .i64 a3,.int .i64 a4,.int .i64 a5,.int .i64 a6],.agg #[.int .i64 b0,.int .i64 b1,.int .i64 b2,.int .i64 b3,.int .i64 b4,.int .i64 b5,.int .i64 b6]] w fun e w'=>d3g e∧Below w.heap.size w w':=by
 go_enter func186,ntmps186;go_wp2_with (first
  |(go_at_call 205;refine (b4x _ _ _ _ _ (by assumption) (by assumption) (by assumption) (by assumption)).mono ?_;rintro e w'⟨⟨r,rfl⟩,hb_⟩;obtain⟨p,rfl⟩:=a0e hb_;clear hb_)
  |(go_at_call 202;refine (a5y _ _ _ _ _ _ _ _ _ _).mono ?_;rintro e w'⟨⟨r,rfl⟩,hb_⟩;obtain⟨p,rfl⟩:=a0e hb_;clear hb_)
  |fail)
 all_goals
  go_ret;exact⟨⟨_,rfl⟩,zC⟩
theorem d1x {S:BS}{W:World}{x y d:Int}(hx:a0k x)(hy:a0k y)(hd:a0k d):TB S W 245 #[.int .i64 x,.int .i64 y,.int .i64 d]:=b9f rfl rfl fun i u ct h1 h2=>by
 match i with
 |0=>cases h1;cases h2;exact CT.ok_int hx
 |1=>cases h1;cases h2;exact CT.ok_int hy
 |2=>cases h1;cases h2;exact CT.ok_int hd
 |i+3=>simp at h1
structure Tr (w:World)(BT:Nat)(c:Array Value)(S:BS)(W:World):Prop where
 ev:Ev noB noB w S W
 b:Blk W BT c 249
 n:¬S BT
 l:w.heap.size≤BT
theorem Tr.evo {w W W':World}{BT:Nat}{c:Array Value}{S S':BS}(h:Tr w BT c S W)(he:Ev noB S W S' W'):Tr w BT c S' W':=⟨h.ev.trans he,he.blk h.b h.n (fun h=>h),he.not h.b.lt h.n,h.l⟩
theorem Tr.set {w W:World}{BT:Nat}{c:Array Value}{S:BS}(h:Tr w BT c S W)(i:Nat)(v:Value):Tr w BT (c.setIfInBounds i v) S (W.setCell ⟨BT,i,none⟩ v) :=
 ⟨h.ev.own (a1g W BT i v) (fun r e=>by cases e;exact⟨h.n,h.l⟩),h.b.set i v,h.n,h.l⟩
theorem Ev.low {w W:World}{S:BS}(h:Ev noB noB w S W):Below w.heap.size w W:=h.below (fun _ h=>h.elim) (fun _ h=>h.elim) (yR _)
structure TrM (wr:World)(BT:Nat)(c:Array Value)(W:World):Prop where
 bel:Below wr.heap.size wr W
 b:Blk W BT c 249
theorem TrM.up {wr W W':World}{BT:Nat}{c:Array Value}(h:TrM wr BT c W)(hb:Below W.heap.size W W'):TrM wr BT c W':=⟨h.bel.trans (hb.mono h.bel.size),h.b.below hb h.b.lt⟩
def FTc (wr:World)(b off m cap k:Nat)(id l r:Int)(i:Nat)(v:Value)(w:World):Prop :=
 match i with
 |0=>v= .slice (some ⟨b,off,none⟩) m cap
 |1=>v= .int .i64 (k:Nat)
 |2=>v= .pointer (some ⟨b,off+k*4,none⟩)
 |3=>v= .pointer (some ⟨b,off+k*4,none⟩)
 |4=>v= .int .i64 id
 |5=>v= .slice (some ⟨b,off,none⟩) m cap
 |6=>v= .int .i64 (k:Nat)
 |7=>v= .pointer (some ⟨b,off+k*4,none⟩)
 |8=>v= .pointer (some ⟨b,off+k*4+2,none⟩)
 |9=>v= .int .i64 l
 |10=>v= .slice (some ⟨b,off,none⟩) m cap
 |11=>v= .int .i64 (k:Nat)
 |12=>v= .pointer (some ⟨b,off+k*4,none⟩)
 |13=>v= .pointer (some ⟨b,off+k*4+3,none⟩)
 |14=>v= .int .i64 r
 |15=>v= .agg #[.int .i64 id,.slice none 0 0,.int .i64 l,.int .i64 r]
 |16=>∃B,v= .pointer (some ⟨B,0,none⟩)∧wr.heap.size≤B∧Blk w B #[.int .i64 0,.slice none 0 0,.int .i64 0,.int .i64 0] 249
 |_=>False
theorem FTc.kept {wr:World}{b off m cap k:Nat}{id l r:Int}{i:Nat}{v:Value}{w w':World}(h:FTc wr b off m cap k id l r i v w)(hg:Below w.heap.size w w'):FTc wr b off m cap k id l r i v w':=by
 unfold FTc at *;split at h
 all_goals first|exact h|(obtain⟨B,h1,h2,h3⟩:=h;exact⟨B,h1,h2,h3.below hg h3.lt⟩)
def FTr (wr:World)(BT b off m cap k pb po q lcap ci:Nat)(x y:Int)(tv:Value)(i:Nat)(v:Value)(w:World):Prop :=
 match i with
 |0=>v= .pointer (some ⟨BT,1,none⟩)
 |1=>v=tv
 |2=>v= .slice (some ⟨b,off,none⟩) m cap
 |3=>v= .int .i64 (k:Nat)
 |4=>v= .pointer (some ⟨b,off+k*4,none⟩)
 |5=>v= .pointer (some ⟨b,off+k*4+1,none⟩)
 |6=>v= .slice (some ⟨pb,po,none⟩) q lcap
 |7=>v= .int .i64 (ci:Nat)
 |8=>v= .pointer (some ⟨pb,po+ci*2,none⟩)
 |9=>v= .agg #[.int .i64 x,.int .i64 y]
 |10=>v= .agg #[.int .i64 x,.int .i64 y,.int .i64 1]
 |11=>∃L,v= .slice (some ⟨L,0,none⟩) 1 1∧wr.heap.size≤L∧Blk w L #[.int .i64 x,.int .i64 y,.int .i64 1] 245
 |_=>False
theorem FTr.kept {wr:World}{BT b off m cap k pb po q lcap ci:Nat}{x y:Int}{tv:Value}{i:Nat}{v:Value}{w w':World}(h:FTr wr BT b off m cap k pb po q lcap ci x y tv i v w)(hg:Below w.heap.size w w'):FTr wr BT b off m cap k pb po q lcap ci x y tv i v w':=by
 unfold FTr at *;split at h
 all_goals first|exact h|(obtain⟨L,h1,h2,h3⟩:=h;exact⟨L,h1,h2,h3.below hg h3.lt⟩)
theorem c2q (S:BS)(w:World)(hT:TW S w)(ev:Value)(m:Nat)(hse:SL S w 206 ev m)(hm:m≤100) :
 Calls prog 166 #[ev] w fun e w'=>∃S' v,e= .returned v∧(∃n,SL S' w' 249 v n∧n≤100)∧Ev noB noB w S' w':=by
 obtain⟨ea,cap,rfl,hec⟩:=hse.form;go_enter func166,ntmps166;go_wp2_with fail;go_loopw [3,4] (fun v kk wr=>∃(k:Nat) (S':BS),k≤m∧kk= .int .i64 (k:Nat)∧SL S' wr 249 v k∧Ev noB noB w S' wr) (fun _ kk _=>m-(intOf kk).toNat)
 case atStart=>exact⟨0,noB,Nat.zero_le _,rfl,SL.nil _ _ _,Ev.refl (TW.none _)⟩
 case round =>
  obtain⟨k,S1,hk,rfl,hsv,hev⟩:=hrel;by_cases hlt:k<m
  ·have hltI:(k:Int)<(m:Int):=by omega
   obtain⟨b,off,cap',hab,-,-⟩:=hse.some_ (by omega);simp only[Value.slice.injEq,true_and] at hab;obtain⟨rfl,rfl⟩:=hab;obtain⟨id,l,r,lv,q,c0,c1,c2,c3,f0,f2,f3,hlv,hq⟩:=SL.edge hT hse hlt;obtain⟨la,lcap,rfl,-⟩:=hlv.form;have hc0:∀W,Below wr.heap.size wr W→W.cell? ⟨b,off+k*4,none⟩=some (.int .i64 id):=fun W h=>((hev.low.trans (h.mono hev.size)).cell (p:=⟨b,_,none⟩) (World.block_lt_of_cell? _ _ c0)).trans c0
   have hc1:∀W,Below wr.heap.size wr W→W.cell? ⟨b,off+k*4+1,none⟩=some (.slice la q lcap):=fun W h=>((hev.low.trans (h.mono hev.size)).cell (p:=⟨b,_,none⟩) (World.block_lt_of_cell? _ _ c1)).trans c1
   have hc2:∀W,Below wr.heap.size wr W→W.cell? ⟨b,off+k*4+2,none⟩=some (.int .i64 l):=fun W h=>((hev.low.trans (h.mono hev.size)).cell (p:=⟨b,_,none⟩) (World.block_lt_of_cell? _ _ c2)).trans c2
   have hc3:∀W,Below wr.heap.size wr W→W.cell? ⟨b,off+k*4+3,none⟩=some (.int .i64 r):=fun W h=>((hev.low.trans (h.mono hev.size)).cell (p:=⟨b,_,none⟩) (World.block_lt_of_cell? _ _ c3)).trans c3
   go_upto_region 5 with fail;refine Go.wp_region_rel 17 (by kernel_rfl) (by kernel_rfl) (fun _ W=>Below wr.heap.size wr W) (fun w w'=>Below w.heap.size w w') (FTc wr b off m cap k id l r) (fun _ _ _ _ h g=>h.kept g) (zR _ _).drew ?_ ?_
   ·clear hsv hev hse hlv hT c0 c1 c2 c3 hc1
    intro i o hi ho c bb W hc hM hA hD K hK;match i,hi,ho with
    |0,_,ho =>
     cases ho;have f0:=a0a (v:= .slice (some ⟨b,off,none⟩) m cap) (hA.at_ (k:=0) (by kernel_rfl));go_simp;exact hK (.slice (some ⟨b,off,none⟩) m cap) W rfl (zR _ _) hM
    |1,_,ho =>
     cases ho;have f4:=a0a (v:= .int .i64 (k:Nat)) (hA.at_ (k:=4) (by kernel_rfl));go_simp;exact hK (.int .i64 (k:Nat)) W rfl (zR _ _) hM
    |2,_,ho =>
     cases ho;have f13:=a0a (v:= .slice (some ⟨b,off,none⟩) m cap) (a0i hD 0 13 (by kernel_rfl) rfl rfl);have f14:=a0a (v:= .int .i64 (k:Nat)) (a0i hD 1 14 (by kernel_rfl) rfl rfl);go_simp;exact hK (.pointer (some ⟨b,off+k*4,none⟩)) W rfl (zR _ _) hM
    |3,_,ho =>
     cases ho;have f15:=a0a (v:= .pointer (some ⟨b,off+k*4,none⟩)) (a0i hD 2 15 (by kernel_rfl) rfl rfl);go_simp;exact hK (.pointer (some ⟨b,off+k*4,none⟩)) W rfl (zR _ _) hM
    |4,_,ho =>
     cases ho;have f16:=a0a (v:= .pointer (some ⟨b,off+k*4,none⟩)) (a0i hD 3 16 (by kernel_rfl) rfl rfl);have z0:W.cell? ⟨b,off+k*4,none⟩=some (.int .i64 id):=hc0 W hM;go_simp;exact hK (.int .i64 id) W rfl (zR _ _) hM
    |5,_,ho =>
     cases ho;have f0:=a0a (v:= .slice (some ⟨b,off,none⟩) m cap) (hA.at_ (k:=0) (by kernel_rfl));go_simp;exact hK (.slice (some ⟨b,off,none⟩) m cap) W rfl (zR _ _) hM
    |6,_,ho =>
     cases ho;have f4:=a0a (v:= .int .i64 (k:Nat)) (hA.at_ (k:=4) (by kernel_rfl));go_simp;exact hK (.int .i64 (k:Nat)) W rfl (zR _ _) hM
    |7,_,ho =>
     cases ho;have f18:=a0a (v:= .slice (some ⟨b,off,none⟩) m cap) (a0i hD 5 18 (by kernel_rfl) rfl rfl);have f19:=a0a (v:= .int .i64 (k:Nat)) (a0i hD 6 19 (by kernel_rfl) rfl rfl);go_simp;exact hK (.pointer (some ⟨b,off+k*4,none⟩)) W rfl (zR _ _) hM
    |8,_,ho =>
     cases ho;have f20:=a0a (v:= .pointer (some ⟨b,off+k*4,none⟩)) (a0i hD 7 20 (by kernel_rfl) rfl rfl);go_simp;exact hK (.pointer (some ⟨b,off+k*4+2,none⟩)) W rfl (zR _ _) hM
    |9,_,ho =>
     cases ho;have f21:=a0a (v:= .pointer (some ⟨b,off+k*4+2,none⟩)) (a0i hD 8 21 (by kernel_rfl) rfl rfl);have z0:W.cell? ⟨b,off+k*4+2,none⟩=some (.int .i64 l):=hc2 W hM;go_simp;exact hK (.int .i64 l) W rfl (zR _ _) hM
    |10,_,ho =>
     cases ho;have f0:=a0a (v:= .slice (some ⟨b,off,none⟩) m cap) (hA.at_ (k:=0) (by kernel_rfl));go_simp;exact hK (.slice (some ⟨b,off,none⟩) m cap) W rfl (zR _ _) hM
    |11,_,ho =>
     cases ho;have f4:=a0a (v:= .int .i64 (k:Nat)) (hA.at_ (k:=4) (by kernel_rfl));go_simp;exact hK (.int .i64 (k:Nat)) W rfl (zR _ _) hM
    |12,_,ho =>
     cases ho;have f23:=a0a (v:= .slice (some ⟨b,off,none⟩) m cap) (a0i hD 10 23 (by kernel_rfl) rfl rfl);have f24:=a0a (v:= .int .i64 (k:Nat)) (a0i hD 11 24 (by kernel_rfl) rfl rfl);go_simp;exact hK (.pointer (some ⟨b,off+k*4,none⟩)) W rfl (zR _ _) hM
    |13,_,ho =>
     cases ho;have f25:=a0a (v:= .pointer (some ⟨b,off+k*4,none⟩)) (a0i hD 12 25 (by kernel_rfl) rfl rfl);go_simp;exact hK (.pointer (some ⟨b,off+k*4+3,none⟩)) W rfl (zR _ _) hM
    |14,_,ho =>
     cases ho;have f26:=a0a (v:= .pointer (some ⟨b,off+k*4+3,none⟩)) (a0i hD 13 26 (by kernel_rfl) rfl rfl);have z0:W.cell? ⟨b,off+k*4+3,none⟩=some (.int .i64 r):=hc3 W hM;go_simp;exact hK (.int .i64 r) W rfl (zR _ _) hM
    |15,_,ho =>
     cases ho;have f17:=a0a (v:= .int .i64 id) (a0i hD 4 17 (by kernel_rfl) rfl rfl);have f22:=a0a (v:= .int .i64 l) (a0i hD 9 22 (by kernel_rfl) rfl rfl);have f27:=a0a (v:= .int .i64 r) (a0i hD 14 27 (by kernel_rfl) rfl rfl);go_simp;exact hK (.agg #[.int .i64 id,.slice none 0 0,.int .i64 l,.int .i64 r]) W rfl (zR _ _) hM
    |16,_,ho =>
     cases ho;go_simp;exact hK (.pointer (some ⟨W.heap.size,0,none⟩)) _ ⟨_,rfl,hM.size,Blk.new _ _ _⟩ ((zR _ _).alloc (yR _) _) (hM.alloc hM.size _)
    |i+17,hi,_=>exact absurd hi (by omega)
   ·intro bb W hM hA hall
    have hP15:bb.eval (.tmp 28)= .agg #[.int .i64 id,.slice none 0 0,.int .i64 l,.int .i64 r]:=hall 15 (by omega) _ _ rfl rfl;obtain⟨BT,hP16,hBl,kT0⟩:=(show ∃B,bb.eval (.tmp 5)= .pointer (some ⟨B,0,none⟩)∧wr.heap.size≤B∧Blk W B #[.int .i64 0,.slice none 0 0,.int .i64 0,.int .i64 0] 249 from hall 16 (by omega) _ _ rfl rfl);have hfr:=hA.frame [T,T,T,T,T,F,T,T,T,T,T,T,T,F,F,F,F,F,F,F,F,F,F,F,F,F,F,F,F,T,T,T,T,T,T,T,T,T,T,T,T,T,T,T,T,T,T,T,T,T,T,T,T,T,T,T,T,T] _ rfl (by kernel_rfl);clear hall hA;obtain⟨f,hf⟩:∃f:Nat→Value,(fun k=>bb.tmps.getD k undef)=f:=⟨_,rfl⟩;have g28:f 28= .agg #[.int .i64 id,.slice none 0 0,.int .i64 l,.int .i64 r]:=by rw[←hf,←hP15];rfl
    have g5:f 5= .pointer (some ⟨BT,0,none⟩):=by rw[←hf,←hP16];rfl
    rw[hf] at hfr;clear hf hP15 hP16;subst hfr;simp only[a2k,g28,g5,Nat.reduceAdd];clear g28 g5;simp only[List.drop_succ_cons,List.drop_zero];have fr0:=kT0.frozen 0;have fr1:=kT0.frozen 1;have fr2:=kT0.frozen 2;have fr3:=kT0.frozen 3;obtain⟨q0,q1,q2,q3⟩:=(⟨kT0.cell 0,kT0.cell 1,kT0.cell 2,kT0.cell 3⟩:W.cell? ⟨BT,0,none⟩=some (.int .i64 0)∧W.cell? ⟨BT,1,none⟩=some (.slice none 0 0)∧W.cell? ⟨BT,2,none⟩=some (.int .i64 0)∧W.cell? ⟨BT,3,none⟩=some (.int .i64 0));go_upto_region 6 with fail;refine a0g (fun W5 hW5=> ?_);have hn:¬S1 BT:=fun h=>by have:=hev.ok.lt h;omega
    have hE1:Ev noB S1 wr S1 W:=Ev.of_below hev.ok hM;have hTr:Tr w BT #[.int .i64 id,.slice none 0 0,.int .i64 l,.int .i64 r] S1 W5∧Shp S1 W W5:=by
     have h1:Tr w BT _ S1 W:=⟨hev.trans hE1,kT0,hn,Nat.le_trans hev.size hBl⟩;have h2:=(((h1.set 0 (.int .i64 id)).set 1 (.slice none 0 0)).set 2 (.int .i64 l)).set 3 (.int .i64 r);rw[hW5];exact⟨by simpa using h2,(((Shp.set hn 0 _).trans (Shp.set hn 1 _) (fun _ h=>h)).trans (Shp.set hn 2 _) (fun _ h=>h)).trans (Shp.set hn 3 _) (fun _ h=>h)⟩
    have hsv5:=(hE1.sl hsv).mono (fun _ h=>h) hTr.2;replace hTr:=hTr.1;clear hW5 q0 q1 q2 q3 fr0 fr1 fr2 fr3 kT0 hM hE1 hn hc0 hc1 hc2 hc3 hsv hev hBl;obtain⟨ov,hov⟩:∃v,v=u3:=⟨_,rfl⟩;subst hov;go_wp2_with fail;go_loopw [6] (fun ii wx=>∃(ci:Nat) (S2:BS) (tv:Value),ci≤q∧ii= .int .i64 (ci:Nat)∧SL S2 wx 245 tv ci∧SL S2 wx 249 ov k∧Tr w BT #[.int .i64 id,tv,.int .i64 l,.int .i64 r] S2 wx) (fun ii _=>q-(intOf ii).toNat)
    case atStart=>exact⟨0,S1,_,Nat.zero_le _,rfl,SL.nil _ _ _,hsv5,hTr⟩
    case round =>
     clear hTr hsv5;obtain⟨ci,S2,tv,hci,rfl,hst,hso,hTr⟩:=hrel;have hlow:=hTr.ev.low;have hc1:∀W,Below wr.heap.size wr W→W.cell? ⟨b,off+k*4+1,none⟩=some (.slice la q lcap):=fun W h=>((hlow.trans (h.mono hTr.ev.size)).cell (p:=⟨b,_,none⟩) (World.block_lt_of_cell? _ _ c1)).trans c1
     have c1':=hc1 wr (zR _ _);by_cases hli:ci<q
     ·have hliI:(ci:Int)<(q:Int):=by omega
      obtain⟨pb,po,qc,hab2,-,-⟩:=hlv.some_ (by omega);simp only[Value.slice.injEq,true_and] at hab2;obtain⟨rfl,rfl⟩:=hab2;obtain⟨x,y,cx,cy,fx,fy⟩:=SL.point hT hlv hli;have hx:∀W,Below wr.heap.size wr W→W.cell? ⟨pb,po+ci*2,none⟩=some (.int .i64 x):=fun W h=>((hlow.trans (h.mono hTr.ev.size)).cell (p:=⟨pb,_,none⟩) (World.block_lt_of_cell? _ _ cx)).trans cx
      have hy:∀W,Below wr.heap.size wr W→W.cell? ⟨pb,po+ci*2+1,none⟩=some (.int .i64 y):=fun W h=>((hlow.trans (h.mono hTr.ev.size)).cell (p:=⟨pb,_,none⟩) (World.block_lt_of_cell? _ _ cy)).trans cy
      go_upto_region 9 with fail;refine Go.wp_region_rel 12 (by kernel_rfl) (by kernel_rfl) (fun _ W=>TrM wr BT #[.int .i64 id,tv,.int .i64 l,.int .i64 r] W) (fun w w'=>Below w.heap.size w w') (FTr wr BT b off m cap k pb po q lcap ci x y tv) (fun _ _ _ _ h g=>h.kept g) ((⟨zR _ _,hTr.b⟩:TrM wr BT #[.int .i64 id,tv,.int .i64 l,.int .i64 r] wr).up (zR _ _).drew) ?_ ?_
      ·clear hst hso hse hlv hT c0 c1 c2 c3 c1' cx cy hTr hlow
       intro i o hi ho c bb W hc hM hA hD K hK;match i,hi,ho with
       |0,_,ho =>
        cases ho;have f5:=a0a (v:= .pointer (some ⟨BT,0,none⟩)) (hA.at_ (k:=5) (by kernel_rfl));go_simp;exact hK (.pointer (some ⟨BT,1,none⟩)) W rfl (zR _ _) hM
       |1,_,ho =>
        cases ho;have f39:=a0a (v:= .pointer (some ⟨BT,1,none⟩)) (a0i hD 0 39 (by kernel_rfl) rfl rfl);have z0:W.cell? ⟨BT,1,none⟩=some (tv):=hM.b.cell 1;go_simp;exact hK (tv) W rfl (zR _ _) hM
       |2,_,ho =>
        cases ho;have f0:=a0a (v:= .slice (some ⟨b,off,none⟩) m cap) (hA.at_ (k:=0) (by kernel_rfl));go_simp;exact hK (.slice (some ⟨b,off,none⟩) m cap) W rfl (zR _ _) hM
       |3,_,ho =>
        cases ho;have f4:=a0a (v:= .int .i64 (k:Nat)) (hA.at_ (k:=4) (by kernel_rfl));go_simp;exact hK (.int .i64 (k:Nat)) W rfl (zR _ _) hM
       |4,_,ho =>
        cases ho;have f41:=a0a (v:= .slice (some ⟨b,off,none⟩) m cap) (a0i hD 2 41 (by kernel_rfl) rfl rfl);have f42:=a0a (v:= .int .i64 (k:Nat)) (a0i hD 3 42 (by kernel_rfl) rfl rfl);go_simp;exact hK (.pointer (some ⟨b,off+k*4,none⟩)) W rfl (zR _ _) hM
       |5,_,ho =>
        cases ho;have f43:=a0a (v:= .pointer (some ⟨b,off+k*4,none⟩)) (a0i hD 4 43 (by kernel_rfl) rfl rfl);go_simp;exact hK (.pointer (some ⟨b,off+k*4+1,none⟩)) W rfl (zR _ _) hM
       |6,_,ho =>
        cases ho;have f44:=a0a (v:= .pointer (some ⟨b,off+k*4+1,none⟩)) (a0i hD 5 44 (by kernel_rfl) rfl rfl);have z0:W.cell? ⟨b,off+k*4+1,none⟩=some (.slice (some ⟨pb,po,none⟩) q lcap):=hc1 W hM.bel;go_simp;exact hK (.slice (some ⟨pb,po,none⟩) q lcap) W rfl (zR _ _) hM
       |7,_,ho =>
        cases ho;have f6:=a0a (v:= .int .i64 (ci:Nat)) (hA.at_ (k:=6) (by kernel_rfl));go_simp;exact hK (.int .i64 (ci:Nat)) W rfl (zR _ _) hM
       |8,_,ho =>
        cases ho;have f45:=a0a (v:= .slice (some ⟨pb,po,none⟩) q lcap) (a0i hD 6 45 (by kernel_rfl) rfl rfl);have f46:=a0a (v:= .int .i64 (ci:Nat)) (a0i hD 7 46 (by kernel_rfl) rfl rfl);go_simp;exact hK (.pointer (some ⟨pb,po+ci*2,none⟩)) W rfl (zR _ _) hM
       |9,_,ho =>
        cases ho;have f47:=a0a (v:= .pointer (some ⟨pb,po+ci*2,none⟩)) (a0i hD 8 47 (by kernel_rfl) rfl rfl);have z0:W.cell? ⟨pb,po+ci*2,none⟩=some (.int .i64 x):=hx W hM.bel;have z1:W.cell? ⟨pb,po+ci*2+1,none⟩=some (.int .i64 y):=hy W hM.bel;go_simp;exact hK (.agg #[.int .i64 x,.int .i64 y]) W rfl (zR _ _) hM
       |10,_,ho =>
        cases ho;have f48:=a0a (v:= .agg #[.int .i64 x,.int .i64 y]) (a0i hD 9 48 (by kernel_rfl) rfl rfl);go_simp;refine (a6f x y W).mono ?_;rintro e W'⟨rfl,hb⟩;go_simp;exact hK (.agg #[.int .i64 x,.int .i64 y,.int .i64 1]) W' rfl hb (hM.up hb)
       |11,_,ho =>
        cases ho;have f49:=a0a (v:= .agg #[.int .i64 x,.int .i64 y,.int .i64 1]) (a0i hD 10 49 (by kernel_rfl) rfl rfl);go_simp;exact hK (.slice (some ⟨W.heap.size,0,none⟩) 1 1) _ ⟨_,rfl,hM.bel.size,Blk.new _ _ _⟩ ((zR _ _).alloc (yR _) _) (hM.up ((zR _ _).alloc (yR _) _))
       |i+12,hi,_=>exact absurd hi (by omega)
      ·intro bb W hM hA hall
       obtain⟨L,hP11,hLl,kL⟩:=(show ∃L,bb.eval (.tmp 50)= .slice (some ⟨L,0,none⟩) 1 1∧wr.heap.size≤L∧Blk W L #[.int .i64 x,.int .i64 y,.int .i64 1] 245 from hall 11 (by omega) _ _ rfl rfl);have hP1:bb.eval (.tmp 40)=tv:=hall 1 (by omega) _ _ rfl rfl;have hfr:=hA.frame [T,T,T,T,T,T,T,T,T,T,T,T,T,T,T,T,T,T,T,T,T,T,T,T,T,T,T,T,T,T,T,T,T,T,T,T,T,T,T,F,F,F,F,F,F,F,F,F,F,F,F,T,T,T,T,T,T,T] _ rfl (by kernel_rfl);clear hall hA;obtain⟨f,hf⟩:∃f:Nat→Value,(fun k=>bb.tmps.getD k undef)=f:=⟨_,rfl⟩;have g50:f 50= .slice (some ⟨L,0,none⟩) 1 1:=by rw[←hf,←hP11];rfl
       have g40:f 40=tv:=by rw[←hf,←hP1];rfl
       rw[hf] at hfr;clear hf hP11 hP1;subst hfr;simp only[a2k,g50,g40,Nat.reduceAdd];clear g50 g40;simp only[List.drop_succ_cons,List.drop_zero];have hE1:Ev noB S2 wr (fun b=>S2 b∨b=L) W:=(Ev.of_below hTr.ev.ok hM.bel).adopt hLl kL (d1x fx fy ⟨by decide,by decide⟩);have h4:=hTr.evo hE1;have hst4:=hE1.sl hst;have hso4:=hE1.sl hso;have slL:SL (fun b=>S2 b∨b=L) W 245 (.slice (some ⟨L,0,none⟩) 1 1) 1:=SL.blk (.inr rfl) kL (by show 1*3≤3;omega);clear hTr hst hso hM hE1 hlow;go_wp2_with (first
        |(at_builtin;refine a1b (X:=noB) h4.ev.ok (by rfl) _ _ 247 (by rfl) underlying247 b4c (by rfl) hst4 (by rfl) slL (by omega) ?_;intro v9 S9 w9 hsl9 he9;obtain⟨a9,c9,rfl,-⟩:=hsl9.form;have h5:=h4.evo he9;have o1:w9.cell? ⟨BT,1,none⟩=some tv:=h5.b.cell 1;have fo1:=h5.b.frozen 1)
        |fail)
       go_roundw
       case rel=>exact⟨ci+1,S9,_,by omega,by go_num,SL.mono hsl9 (fun _ h=>h) (Shp.set h5.n _ _),SL.mono (he9.sl hso4) (fun _ h=>h) (Shp.set h5.n _ _),by have h6:=h5.set 1 (.slice a9 (ci+1) c9);simpa using h6⟩
       case measure=>simp[intOf];omega
     ·obtain rfl:ci=q:=by omega
      have hge:¬(ci:Int)<(ci:Int):=by omega
      obtain⟨ta,tc,rfl,-⟩:=hst.form;obtain⟨t0,t1,t2,t3⟩:=(⟨hTr.b.cell 0,hTr.b.cell 1,hTr.b.cell 2,hTr.b.cell 3⟩:wr.cell? ⟨BT,0,none⟩=some (.int .i64 id)∧wr.cell? ⟨BT,1,none⟩=some (.slice ta ci tc)∧wr.cell? ⟨BT,2,none⟩=some (.int .i64 l)∧wr.cell? ⟨BT,3,none⟩=some (.int .i64 r));go_wp2_with (first
       |(at_builtin;refine a0w hTr.ev.ok (by rfl) _ _ 226 (by rfl) underlying226 a7y (by rfl) hso (by rfl) rfl (c8k f0 f2 f3 hst hq) rfl (by omega) ?_;intro v9 S9 w9 hsl9 he9)
       |fail)
      go_roundw
      case rel=>exact⟨k+1,S9,by omega,by go_num,hsl9,hTr.ev.trans he9⟩
      case measure=>simp[intOf];omega
  ·obtain rfl:k=m:=by omega
   have hge:¬(k:Int)<(k:Int):=by omega
   go_wp2_with fail;go_ret;exact⟨S1,_,rfl,⟨k,hsv,hm⟩,hev⟩
theorem SL.trace {S:BS}{W:World}{b off n cap:Nat}(hT:TW S W)(h:SL S W 249 (.slice (some ⟨b,off,none⟩) n cap) n){k:Nat}(hk:k<n):∃id l r lv m,W.cell? ⟨b,off+k*4,none⟩=some (.int .i64 id)∧W.cell? ⟨b,off+k*4+1,none⟩=some lv∧W.cell? ⟨b,off+k*4+2,none⟩=some (.int .i64 l)∧W.cell? ⟨b,off+k*4+3,none⟩=some (.int .i64 r)∧a0k id∧a0k l∧a0k r∧SL S W 245 lv m∧m≤100:=by
 obtain⟨u0,c0,h0⟩:=h.cell hT a7y hk 0 .int rfl;obtain⟨u1,c1,h1⟩:=h.cell hT a7y hk 1 (.sl 245) rfl;obtain⟨u2,c2,h2⟩:=h.cell hT a7y hk 2 .int rfl;obtain⟨u3,c3,h3⟩:=h.cell hT a7y hk 3 .int rfl;obtain⟨id,rfl,f0⟩:=h0.i rfl;obtain⟨m,hm,hl⟩:=h1.l rfl;obtain⟨l,rfl,f2⟩:=h2.i rfl;obtain⟨r,rfl,f3⟩:=h3.i rfl;exact⟨id,l,r,u1,m,c0,c1,c2,c3,f0,f2,f3,hl,hm⟩
theorem SL.spot {S:BS}{W:World}{b off n cap:Nat}(hT:TW S W)(h:SL S W 245 (.slice (some ⟨b,off,none⟩) n cap) n){k:Nat}(hk:k<n):∃x y d,W.cell? ⟨b,off+k*3,none⟩=some (.int .i64 x)∧W.cell? ⟨b,off+k*3+1,none⟩=some (.int .i64 y)∧W.cell? ⟨b,off+k*3+2,none⟩=some (.int .i64 d)∧a0k x∧a0k y∧a0k d:=by
 obtain⟨u0,c0,h0⟩:=h.cell hT b4c hk 0 .int rfl;obtain⟨u1,c1,h1⟩:=h.cell hT b4c hk 1 .int rfl;obtain⟨u2,c2,h2⟩:=h.cell hT b4c hk 2 .int rfl;obtain⟨x,rfl,f0⟩:=h0.i rfl;obtain⟨y,rfl,f1⟩:=h1.i rfl;obtain⟨d,rfl,f2⟩:=h2.i rfl;exact⟨x,y,d,c0,c1,c2,f0,f1,f2⟩
structure PP (w:World)(B3:Nat)(px py:Int)(W:World):Prop where
 bel:Below w.heap.size w W
 p:Blk W B3 #[.int .i64 px,.int .i64 py] 26
theorem PP.up {w W W':World}{B3:Nat}{px py:Int}(h:PP w B3 px py W)(hb:Below W.heap.size W W'):PP w B3 px py W':=⟨h.bel.trans (hb.mono h.bel.size),h.p.below hb h.p.lt⟩
theorem PP.old {w W:World}{B3:Nat}{px py:Int}(h:PP w B3 px py W){ad:Addr}{v:Value}(hc:w.cell? ad=some v):W.cell? ad=some v:=(h.bel.cell (World.block_lt_of_cell? _ _ hc)).trans hc
abbrev a3d (y0 y1 y2 y3 y4 y5 y6:Int):Array Value:= #[.int .i64 y0,.int .i64 y1,.int .i64 y2,.int .i64 y3,.int .i64 y4,.int .i64 y5,.int .i64 y6]
structure PQ (w:World)(B3:Nat)(px py:Int)(B9:Nat)(W:World):Prop where
 pp:PP w B3 px py W
 q:∃y0 y1 y2 y3 y4 y5 y6,Blk W B9 (a3d y0 y1 y2 y3 y4 y5 y6) 251∧a0k y1∧a0k y2
 l9:w.heap.size≤B9
 d:B3≠B9
theorem PQ.up {w W W':World}{B3 B9:Nat}{px py:Int}(h:PQ w B3 px py B9 W)(hb:Below W.heap.size W W'):PQ w B3 px py B9 W':=by
 obtain⟨y0,y1,y2,y3,y4,y5,y6,k,f1,f2⟩:=h.q;exact⟨h.pp.up hb,⟨y0,y1,y2,y3,y4,y5,y6,k.below hb k.lt,f1,f2⟩,h.l9,h.d⟩
theorem b4y {W:World}{B:Nat}{y0 y1 y2 y3 y4 y5 y6:Int}{t:TypeId}(h:Blk W B (a3d y0 y1 y2 y3 y4 y5 y6) t):(W.cell? ⟨B,0,none⟩=some (.int .i64 y0)∧W.cell? ⟨B,1,none⟩=some (.int .i64 y1)∧W.cell? ⟨B,2,none⟩=some (.int .i64 y2)∧W.cell? ⟨B,3,none⟩=some (.int .i64 y3)∧W.cell? ⟨B,4,none⟩=some (.int .i64 y4)∧W.cell? ⟨B,5,none⟩=some (.int .i64 y5)∧W.cell? ⟨B,6,none⟩=some (.int .i64 y6)) ∧
 W.frozen? ⟨B,0,none⟩=false∧W.frozen? ⟨B,1,none⟩=false∧W.frozen? ⟨B,2,none⟩=false∧W.frozen? ⟨B,3,none⟩=false∧W.frozen? ⟨B,4,none⟩=false∧W.frozen? ⟨B,5,none⟩=false∧W.frozen? ⟨B,6,none⟩=false :=
 ⟨⟨h.cell 0,h.cell 1,h.cell 2,h.cell 3,h.cell 4,h.cell 5,h.cell 6⟩,h.frozen 0,h.frozen 1,h.frozen 2,h.frozen 3,h.frozen 4,h.frozen 5,h.frozen 6⟩
structure AtW (wr:World)(P Q b off k:Nat)(ax ay ad bx by_ bd l r:Int)(W:World):Prop where
 bel:Below wr.heap.size wr W
 p:Blk W P #[.int .i64 ax,.int .i64 ay,.int .i64 ad] 245
 q:Blk W Q #[.int .i64 bx,.int .i64 by_,.int .i64 bd] 245
 c2:W.cell? ⟨b,off+k*4+2,none⟩=some (.int .i64 l)
 c3:W.cell? ⟨b,off+k*4+3,none⟩=some (.int .i64 r)
theorem AtW.up {wr W W':World}{P Q b off k:Nat}{ax ay ad bx by_ bd l r:Int}(h:AtW wr P Q b off k ax ay ad bx by_ bd l r W)(hb:Below W.heap.size W W'):AtW wr P Q b off k ax ay ad bx by_ bd l r W' :=
 ⟨h.bel.trans (hb.mono h.bel.size),h.p.below hb h.p.lt,h.q.below hb h.q.lt,(hb.cell (World.block_lt_of_cell? _ _ h.c2)).trans h.c2,(hb.cell (World.block_lt_of_cell? _ _ h.c3)).trans h.c3⟩
end
section
open Go.RowKit Go.Shelf
section
variable {P:Program}
theorem b7f {W:World}{B:Nat}{c:Array Value}{t:TypeId}(h:Blk W B c t)(cs:Array Value):Blk (W.setRow B cs) B cs t∧W.grownBy (W.setRow B cs) (some B) :=
 ⟨setRow_heap W B c cs t (0,0) h,rfl,rfl,rfl,by simp[World.setRow],fun k _ hk=>setRow_other W B k _ (fun e=>hk (by rw[e]))⟩
theorem a1r {ops:Array Oper}{rest:List Oper}{o:Oper}{a:Act}{w:World}{Q:Exit→Act→World→Prop}(hgd:o.guard=none)(ty:TypeId)(x y:Operand)(ho:o.op= .store ty x y)
 (B:Nat) (cs:Array Value) (hx:a.eval x= .pointer (some ⟨B,0,none⟩)) (hy:a.eval y= .agg cs) (t:TypeId) (old:Array Value) (hB:Blk w B old t) (hi:(P.info? ty).map (·.size)=some cs.size)
 (hold:old.size=cs.size) (h1:cs.all (·.oneCell')=true) (h:∀w',Blk w' B cs t→w.grownBy w' (some B)→wpList P ops Q rest (a.put o.dst undef) w'):wpList P ops Q (o::rest) a w :=
 wpList_plain hgd fun _ hK=>by
  obtain⟨k1,k2⟩:=b7f hB cs;exact wp_store_row ty x y ho B cs hx hy t old hB hi hold h1 (hK _ _ (h _ k1 k2))
end
end
end Go.Proofs.YtfocdbjceedagaaGreatDoor
