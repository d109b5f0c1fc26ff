/-
  Parts.
-/
import Derived.Test.YtfocdbjceedagaaGreatDoorYbd
set_option linter.unusedVariables false
set_option linter.unusedSimpArgs false
set_option maxHeartbeats 8000000
set_option maxRecDepth 100000
namespace Go.Proofs.YtfocdbjceedagaaGreatDoor
open Tryz
section
open Go.RowKit Go.Shelf
attribute [local go_sem] Oper.semAt_some
attribute [local go_sem ↓] Go.wp_at_zero Go.wp_at_succ
theorem DY.pt0 {n₀ D:Nat}{sv:Value}{xs:List Int}{S0 S:BS}{W0 W:World}{L:a8b}{T:SlL}{B:Nat}{X Y X':Int}{t:TypeId}(h:DY n₀ D sv xs S0 W0 S W ((B,#[.int .i64 X,.int .i64 Y],t)::L) T)(f:a0i X'):∃X7,a0i X7∧DY n₀ D sv xs S0 W0 S (W.setCell ⟨B,0,none⟩ (.int .i64 X')) ((B,#[.int .i64 X7,.int .i64 Y],t)::L) T :=
 ⟨X',f,h.set 0 _ (by simp)⟩
theorem DY.pt1 {n₀ D:Nat}{sv:Value}{xs:List Int}{S0 S:BS}{W0 W:World}{L:a8b}{T:SlL}{B:Nat}{X Y Y':Int}{t:TypeId}(h:DY n₀ D sv xs S0 W0 S W ((B,#[.int .i64 X,.int .i64 Y],t)::L) T)(f:a0i Y'):∃Y7,a0i Y7∧DY n₀ D sv xs S0 W0 S (W.setCell ⟨B,1,none⟩ (.int .i64 Y')) ((B,#[.int .i64 X,.int .i64 Y7],t)::L) T :=
 ⟨Y',f,h.set 1 _ (by simp)⟩
theorem DY.put {n₀ D:Nat}{sv:Value}{xs:List Int}{S0 S:BS}{W0 W W':World}{L:a8b}{T:SlL}{B i:Nat}{c c':Array Value}{v:Value}{t:TypeId}(h:DY n₀ D sv xs S0 W0 S W ((B,c,t)::L) T)(hW:W'=W.setCell ⟨B,i,none⟩ v)(hc:c.setIfInBounds i v=c'):DY n₀ D sv xs S0 W0 S W' ((B,c',t)::L) T:=hW▸h.set i v hc
theorem DY.wd {n₀ D:Nat}{sv:Value}{xs:List Int}{S0 S:BS}{W0 W W':World}{L:a8b}{T:SlL}{B:Nat}{id lev wt d:Int}{lv:Value}{cs ns:ByteArray}{st:Bool}{t:TypeId}(h:DY n₀ D sv xs S0 W0 S W ((B,b7k id lv lev cs ns st wt 0,t)::L) T)(hW:W'=W.setCell ⟨B,7,none⟩ (.int .i64 d))(f:a0i d):∃d7,a0i d7∧DY n₀ D sv xs S0 W0 S W' ((B,b7k id lv lev cs ns st wt d7,t)::L) T :=
 ⟨d,f,h.put hW rfl⟩
def FWy (wr:World)(B6 B7 k M:Nat)(ax ay bx by_:Int)(i:Nat)(v:Value)(w:World):Prop :=
 match i with
 |0=>v= .pointer (some ⟨B6,0,none⟩)
 |1=>v= .int .i64 ax
 |2=>v= .pointer (some ⟨B7,0,none⟩)
 |3=>v= .int .i64 bx
 |4=>v= .pointer (some ⟨B6,0,none⟩)
 |5=>v= .int .i64 ax
 |6=>∃x,v= .int .i64 x∧a0i x
 |7=>v= .int .i64 (k:Nat)
 |8=>∃x,v= .int .i64 x∧a0i x
 |9=>v= .int .i64 (M:Nat)
 |10=>v= .int .i64 ((M:Nat)+1)
 |11=>∃x,v= .int .i64 x∧a0i x
 |12=>∃x,v= .int .i64 x∧a0i x
 |13=>v= .pointer (some ⟨B6,1,none⟩)
 |14=>v= .int .i64 ay
 |15=>v= .pointer (some ⟨B7,1,none⟩)
 |16=>v= .int .i64 by_
 |17=>v= .pointer (some ⟨B6,1,none⟩)
 |18=>v= .int .i64 ay
 |19=>∃x,v= .int .i64 x∧a0i x
 |20=>v= .int .i64 (k:Nat)
 |21=>∃x,v= .int .i64 x∧a0i x
 |22=>v= .int .i64 (M:Nat)
 |23=>v= .int .i64 ((M:Nat)+1)
 |24=>∃x,v= .int .i64 x∧a0i x
 |25=>∃x,v= .int .i64 x∧a0i x
 |26=>∃X Y,v= .agg #[.int .i64 X,.int .i64 Y]∧a0i X∧a0i Y
 |27=>∃B,v= .pointer (some ⟨B,0,none⟩)∧wr.heap.size≤B∧Blk w B #[.int .i64 0,.int .i64 0] 26
 |_=>False
theorem FWy.kept {wr:World}{B6 B7 k M:Nat}{ax ay bx by_:Int}{i:Nat}{v:Value}{w w':World}(h:FWy wr B6 B7 k M ax ay bx by_ i v w)(hg:Below w.heap.size w w'):FWy wr B6 B7 k M ax ay bx by_ i v w':=by
 unfold FWy at *;split at h
 all_goals first|exact h|(exact h)|(obtain⟨B,h1,h2,h3⟩:=h;exact⟨B,h1,h2,h3.below hg h3.lt⟩)
def d4u (n₀ D:Nat)(sv:Value)(xs:List Int)(S:BS)(w:World)(m M BW B6 B7:Nat)(lev ax ay bx by_:Int)(ov kk:Value)(wr:World):Prop :=
 ∃(k:Nat) (S':BS) (lv:Value) (n:Nat),1≤k∧k≤M+1∧kk= .int .i64 (k:Nat)∧n≤k∧DY n₀ D sv xs S w S' wr [(BW,b7k (41+m) lv lev ⟨#[]⟩ ⟨#[]⟩ false 0 0,149),(B6,#[.int .i64 ax,.int .i64 ay],26),(B7,#[.int .i64 bx,.int .i64 by_],26)] [(26,lv,n),(149,ov,m)]
theorem a6a (n₀ D:Nat)(sv:Value)(xs:List Int)(S:BS)(w:World)(h:TD S n₀ D sv xs w)(ov:Value)(m:Nat)(hso:SL S w 149 ov m)(hm:m≤100)(ax ay bx by_ lev:Int)(fa:a0i ax)(fb:a0i ay)(fc:a0i bx)(fd:a0i by_)(fl:a0i lev) :
 Calls prog 132 #[ov,.agg #[.int .i64 ax,.int .i64 ay],.agg #[.int .i64 bx,.int .i64 by_],.int .i64 lev,.pointer (some ⟨D,0,none⟩)] w fun e w'=>∃S' v,e= .returned v∧SL S' w' 149 v (m+1)∧TD S' n₀ D sv xs w'∧Ev (a9h D) S w S' w':=by
 obtain⟨oa,oc,rfl,hoc⟩:=hso.form;go_enter func132,ntmps132;go_upto_region 2 with fail;refine a0g (fun W1 hW1=> ?_);obtain⟨B6,hB6⟩:∃b,w.heap.size=b:=⟨_,rfl⟩;obtain⟨B7,hB7⟩:∃b,w.heap.size+1=b:=⟨_,rfl⟩;obtain⟨BL,hBL⟩:∃b,w.heap.size+1+1=b:=⟨_,rfl⟩;obtain⟨BW,hBW⟩:∃b,w.heap.size+1+1+1=b:=⟨_,rfl⟩;obtain⟨S1,hd⟩:∃S1,DY n₀ D sv xs S w S1 W1 [(BW,b7k (41+m) (.slice (some ⟨BL,0,none⟩) 1 1) lev ⟨#[]⟩ ⟨#[]⟩ false 0 0,149),(B6,#[.int .i64 ax,.int .i64 ay],26),(B7,#[.int .i64 bx,.int .i64 by_],26)] [(26,.slice (some ⟨BL,0,none⟩) 1 1,1),(149,.slice oa m oc,m)]:=by
  have h1:=((((h.dw.add hso).box #[.int .i64 ax,.int .i64 ay] 26).box #[.int .i64 bx,.int .i64 by_] 26).swap.cellT (a3n fa fb));have h2:=(h1.add (SL.blk (.inr rfl) (Blk.new _ _ _) (by show 1*2≤2;omega))).box (b7k (41+m) (.slice (some ⟨BL,0,none⟩) 1 1) lev ⟨#[]⟩ ⟨#[]⟩ false 0 0) 149;simp only[World.size_alloc] at h2;rw[hBW,hBL,hB7,hB6] at h2;rw[hW1,hBL];exact⟨_,h2⟩
 rw[hBW,hBL,hB7,hB6];clear hW1 hBW hBL hB7 hB6;obtain⟨lv,hlv⟩:∃v,Value.slice (some ⟨BL,0,none⟩) 1 1=v:=⟨_,rfl⟩;rw[hlv] at hd;clear hlv;go_wp2_with (first
  |(go_at_call 73;(with_reducible refine (hd.call 3 (by omega) (by omega)).mono ?_);rintro e W2⟨many,rfl,m0,m1,hd2⟩)
  |fail)
 obtain⟨M,rfl⟩:∃M:Nat,many=M:=⟨many.toNat,by omega⟩;go_loopw [13] (fun kk wr=>d4u n₀ D sv xs S w m M BW B6 B7 lev ax ay bx by_ (.slice oa m oc) kk wr) (fun kk _=>M+1-(intOf kk).toNat)
 case atStart=>exact⟨1,S1,lv,1,by omega,by omega,rfl,by omega,hd2⟩
 case round =>
  clear hd hd2 lv;obtain⟨ov,hov⟩:∃v,Value.slice oa m oc=v:=⟨_,rfl⟩;rw[hov] at hrel;rw[hov];obtain⟨k,S',lv,n,hk1,hkM,rfl,hn,hd⟩:=hrel;by_cases hlt:k≤M
  ·have hltI:(k:Int)≤(M:Int):=by omega
   have hM0:¬(M:Int)+1=0:=by omega
   have hMw:IntKind.i64.wrap ((M:Int)+1)=M+1:=a0s (by omega) (by omega);have k6:=hd.b1;have k7:=hd.b2;obtain⟨la,lc,rfl,-⟩:=hd.s0.form;obtain⟨lv,hlv⟩:∃v,Value.slice la n lc=v:=⟨_,rfl⟩;rw[hlv] at hd;go_upto_region 6 with fail;refine Go.wp_region_rel 28 (by kernel_rfl) (by kernel_rfl) (fun _ W=>WG7 wr B6 B7 ax ay bx by_ W) (fun w w'=>Below w.heap.size w w') (FWy wr B6 B7 k M ax ay bx by_) (fun _ _ _ _ h g=>h.kept g) ⟨(zR _ _).drew,k6.drew,k7.drew⟩ ?_ ?_
   ·clear hd k6 k7 h hso
    intro i o hi ho c bb W hc hM hA hD K hK;match i,hi,ho with
    |0,_,ho =>
     cases ho;have f6:=a0a (v:= .pointer (some ⟨B6,0,none⟩)) (hA.at_ (k:=6) (by kernel_rfl));go_simp;exact hK (.pointer (some ⟨B6,0,none⟩)) W rfl (zR _ _) hM
    |1,_,ho =>
     cases ho;have f30:=a0a (v:= .pointer (some ⟨B6,0,none⟩)) (a0e hD 0 30 (by kernel_rfl) rfl rfl);have z0:W.cell? ⟨B6,0,none⟩=some (.int .i64 ax):=hM.a.cell 0;go_simp;exact hK (.int .i64 ax) W rfl (zR _ _) hM
    |2,_,ho =>
     cases ho;have f7:=a0a (v:= .pointer (some ⟨B7,0,none⟩)) (hA.at_ (k:=7) (by kernel_rfl));go_simp;exact hK (.pointer (some ⟨B7,0,none⟩)) W rfl (zR _ _) hM
    |3,_,ho =>
     cases ho;have f32:=a0a (v:= .pointer (some ⟨B7,0,none⟩)) (a0e hD 2 32 (by kernel_rfl) rfl rfl);have z0:W.cell? ⟨B7,0,none⟩=some (.int .i64 bx):=hM.u.cell 0;go_simp;exact hK (.int .i64 bx) W rfl (zR _ _) hM
    |4,_,ho =>
     cases ho;have f6:=a0a (v:= .pointer (some ⟨B6,0,none⟩)) (hA.at_ (k:=6) (by kernel_rfl));go_simp;exact hK (.pointer (some ⟨B6,0,none⟩)) W rfl (zR _ _) hM
    |5,_,ho =>
     cases ho;have f34:=a0a (v:= .pointer (some ⟨B6,0,none⟩)) (a0e hD 4 34 (by kernel_rfl) rfl rfl);have z0:W.cell? ⟨B6,0,none⟩=some (.int .i64 ax):=hM.a.cell 0;go_simp;exact hK (.int .i64 ax) W rfl (zR _ _) hM
    |6,_,ho =>
     cases ho;have f33:=a0a (v:= .int .i64 bx) (a0e hD 3 33 (by kernel_rfl) rfl rfl);have f35:=a0a (v:= .int .i64 ax) (a0e hD 5 35 (by kernel_rfl) rfl rfl);go_simp;exact hK _ W ⟨_,rfl,(by first|with_reducible (first|exact a0j _|exact a0l _|assumption|exact a0m (by omega))|exact⟨by omega,by omega⟩)⟩ (zR _ _) hM
    |7,_,ho =>
     cases ho;have f13:=a0a (v:= .int .i64 (k:Nat)) (hA.at_ (k:=13) (by kernel_rfl));go_simp;exact hK (.int .i64 (k:Nat)) W rfl (zR _ _) hM
    |8,_,ho =>
     cases ho;have f36:=a0e hD 6 36 (by kernel_rfl) rfl rfl;obtain⟨x36,e36,g36⟩:=f36;have f36:=a0a e36;have f37:=a0a (v:= .int .i64 (k:Nat)) (a0e hD 7 37 (by kernel_rfl) rfl rfl);go_simp;exact hK _ W ⟨_,rfl,(by first|with_reducible (first|exact a0j _|exact a0l _|assumption|exact a0m (by omega))|exact⟨by omega,by omega⟩)⟩ (zR _ _) hM
    |9,_,ho =>
     cases ho;have f12:=a0a (v:= .int .i64 (M:Nat)) (hA.at_ (k:=12) (by kernel_rfl));go_simp;exact hK (.int .i64 (M:Nat)) W rfl (zR _ _) hM
    |10,_,ho =>
     cases ho;have f39:=a0a (v:= .int .i64 (M:Nat)) (a0e hD 9 39 (by kernel_rfl) rfl rfl);go_simp;exact hK (.int .i64 ((M:Nat)+1)) W rfl (zR _ _) hM
    |11,_,ho =>
     cases ho;have f38:=a0e hD 8 38 (by kernel_rfl) rfl rfl;obtain⟨x38,e38,g38⟩:=f38;have f38:=a0a e38;have f40:=a0a (v:= .int .i64 ((M:Nat)+1)) (a0e hD 10 40 (by kernel_rfl) rfl rfl);go_simp;exact hK _ W ⟨_,rfl,(by first|with_reducible (first|exact a0j _|exact a0l _|assumption|exact a0m (by omega))|exact⟨by omega,by omega⟩)⟩ (zR _ _) hM
    |12,_,ho =>
     cases ho;have f31:=a0a (v:= .int .i64 ax) (a0e hD 1 31 (by kernel_rfl) rfl rfl);have f41:=a0e hD 11 41 (by kernel_rfl) rfl rfl;obtain⟨x41,e41,g41⟩:=f41;have f41:=a0a e41;go_simp;exact hK _ W ⟨_,rfl,(by first|with_reducible (first|exact a0j _|exact a0l _|assumption|exact a0m (by omega))|exact⟨by omega,by omega⟩)⟩ (zR _ _) hM
    |13,_,ho =>
     cases ho;have f6:=a0a (v:= .pointer (some ⟨B6,0,none⟩)) (hA.at_ (k:=6) (by kernel_rfl));go_simp;exact hK (.pointer (some ⟨B6,1,none⟩)) W rfl (zR _ _) hM
    |14,_,ho =>
     cases ho;have f43:=a0a (v:= .pointer (some ⟨B6,1,none⟩)) (a0e hD 13 43 (by kernel_rfl) rfl rfl);have z0:W.cell? ⟨B6,1,none⟩=some (.int .i64 ay):=hM.a.cell 1;go_simp;exact hK (.int .i64 ay) W rfl (zR _ _) hM
    |15,_,ho =>
     cases ho;have f7:=a0a (v:= .pointer (some ⟨B7,0,none⟩)) (hA.at_ (k:=7) (by kernel_rfl));go_simp;exact hK (.pointer (some ⟨B7,1,none⟩)) W rfl (zR _ _) hM
    |16,_,ho =>
     cases ho;have f45:=a0a (v:= .pointer (some ⟨B7,1,none⟩)) (a0e hD 15 45 (by kernel_rfl) rfl rfl);have z0:W.cell? ⟨B7,1,none⟩=some (.int .i64 by_):=hM.u.cell 1;go_simp;exact hK (.int .i64 by_) W rfl (zR _ _) hM
    |17,_,ho =>
     cases ho;have f6:=a0a (v:= .pointer (some ⟨B6,0,none⟩)) (hA.at_ (k:=6) (by kernel_rfl));go_simp;exact hK (.pointer (some ⟨B6,1,none⟩)) W rfl (zR _ _) hM
    |18,_,ho =>
     cases ho;have f47:=a0a (v:= .pointer (some ⟨B6,1,none⟩)) (a0e hD 17 47 (by kernel_rfl) rfl rfl);have z0:W.cell? ⟨B6,1,none⟩=some (.int .i64 ay):=hM.a.cell 1;go_simp;exact hK (.int .i64 ay) W rfl (zR _ _) hM
    |19,_,ho =>
     cases ho;have f46:=a0a (v:= .int .i64 by_) (a0e hD 16 46 (by kernel_rfl) rfl rfl);have f48:=a0a (v:= .int .i64 ay) (a0e hD 18 48 (by kernel_rfl) rfl rfl);go_simp;exact hK _ W ⟨_,rfl,(by first|with_reducible (first|exact a0j _|exact a0l _|assumption|exact a0m (by omega))|exact⟨by omega,by omega⟩)⟩ (zR _ _) hM
    |20,_,ho =>
     cases ho;have f13:=a0a (v:= .int .i64 (k:Nat)) (hA.at_ (k:=13) (by kernel_rfl));go_simp;exact hK (.int .i64 (k:Nat)) W rfl (zR _ _) hM
    |21,_,ho =>
     cases ho;have f49:=a0e hD 19 49 (by kernel_rfl) rfl rfl;obtain⟨x49,e49,g49⟩:=f49;have f49:=a0a e49;have f50:=a0a (v:= .int .i64 (k:Nat)) (a0e hD 20 50 (by kernel_rfl) rfl rfl);go_simp;exact hK _ W ⟨_,rfl,(by first|with_reducible (first|exact a0j _|exact a0l _|assumption|exact a0m (by omega))|exact⟨by omega,by omega⟩)⟩ (zR _ _) hM
    |22,_,ho =>
     cases ho;have f12:=a0a (v:= .int .i64 (M:Nat)) (hA.at_ (k:=12) (by kernel_rfl));go_simp;exact hK (.int .i64 (M:Nat)) W rfl (zR _ _) hM
    |23,_,ho =>
     cases ho;have f52:=a0a (v:= .int .i64 (M:Nat)) (a0e hD 22 52 (by kernel_rfl) rfl rfl);go_simp;exact hK (.int .i64 ((M:Nat)+1)) W rfl (zR _ _) hM
    |24,_,ho =>
     cases ho;have f51:=a0e hD 21 51 (by kernel_rfl) rfl rfl;obtain⟨x51,e51,g51⟩:=f51;have f51:=a0a e51;have f53:=a0a (v:= .int .i64 ((M:Nat)+1)) (a0e hD 23 53 (by kernel_rfl) rfl rfl);go_simp;exact hK _ W ⟨_,rfl,(by first|with_reducible (first|exact a0j _|exact a0l _|assumption|exact a0m (by omega))|exact⟨by omega,by omega⟩)⟩ (zR _ _) hM
    |25,_,ho =>
     cases ho;have f44:=a0a (v:= .int .i64 ay) (a0e hD 14 44 (by kernel_rfl) rfl rfl);have f54:=a0e hD 24 54 (by kernel_rfl) rfl rfl;obtain⟨x54,e54,g54⟩:=f54;have f54:=a0a e54;go_simp;exact hK _ W ⟨_,rfl,(by first|with_reducible (first|exact a0j _|exact a0l _|assumption|exact a0m (by omega))|exact⟨by omega,by omega⟩)⟩ (zR _ _) hM
    |26,_,ho =>
     cases ho;have f42:=a0e hD 12 42 (by kernel_rfl) rfl rfl;obtain⟨x42,e42,g42⟩:=f42;have f42:=a0a e42;have f55:=a0e hD 25 55 (by kernel_rfl) rfl rfl;obtain⟨x55,e55,g55⟩:=f55;have f55:=a0a e55;go_simp;exact hK _ W ⟨_,_,rfl,g42,g55⟩ (zR _ _) hM
    |27,_,ho =>
     cases ho;go_simp;exact hK (.pointer (some ⟨W.heap.size,0,none⟩)) _ ⟨_,rfl,hM.b.size,Blk.new _ _ _⟩ ((zR _ _).alloc (yR _) _) (hM.up ((zR _ _).alloc (yR _) _))
    |i+28,hi,_=>exact absurd hi (by omega)
   ·intro bb W hM hA hall
    obtain⟨X,Y,hP26,fX,fY⟩:=(show ∃X Y,bb.eval (.tmp 56)= .agg #[.int .i64 X,.int .i64 Y]∧a0i X∧a0i Y from hall 26 (by omega) _ _ rfl rfl);obtain⟨B14,hP27,hBl,kB0⟩:=(show ∃B,bb.eval (.tmp 14)= .pointer (some ⟨B,0,none⟩)∧wr.heap.size≤B∧Blk W B #[.int .i64 0,.int .i64 0] 26 from hall 27 (by omega) _ _ rfl rfl);have hfr:=hA.frame [T,T,T,T,T,T,T,T,T,T,T,T,T,T,F,T,T,T,T,T,T,T,T,T,T,T,T,T,T,T,F,F,F,F,F,F,F,F,F,F,F,F,F,F,F,F,F,F,F,F,F,F,F,F,F,F,F,T,T,T,T,T,T,T,T,T,T,T,T,T,T,T,T,T,T,T,T,T,T,T,T,T,T,T,T,T,T,T,T,T,T,T,T,T,T,T,T,T,T,T,T,T,T,T,T,T,T,T,T,T,T,T,T,T,T,T,T,T,T,T,T,T,T] _ rfl (by kernel_rfl);clear hall hA;obtain⟨f,hf⟩:∃f:Nat→Value,(fun k=>bb.tmps.getD k undef)=f:=⟨_,rfl⟩;have g56:f 56= .agg #[.int .i64 X,.int .i64 Y]:=by rw[←hf,←hP26];rfl
    have g14:f 14= .pointer (some ⟨B14,0,none⟩):=by rw[←hf,←hP27];rfl
    rw[hf] at hfr;clear hf hP26 hP27;subst hfr;simp only[a2a,g56,g14,Nat.reduceAdd];clear g56 g14;simp only[List.drop_succ_cons,List.drop_zero];refine a1p (by rfl) _ _ _ (by rfl) B14 #[.int .i64 X,.int .i64 Y] (by rfl) (by rfl) _ _ kB0 (by rfl) (by rfl) (by simp[Value.oneCell']) ?_;intro W5 kP hg5;have hd5:=hd.fresh (hM.b.trans (Below.of_grown hg5 hM.b.size (fun r e=>by cases e;exact hBl))) hBl kP;clear hM kB0 hg5 kP hBl hd k6 k7;go_upto_region 8 with (first
     |(go_at_call 73;(with_reducible refine (hd5.call 17 (by omega) (by omega)).mono ?_);rintro e W6⟨dr,rfl,r0,r1,hd6⟩)
     |fail)
    obtain⟨a0,a1,-,-⟩:=pt2 hd6.b2;obtain⟨b0,b1,-,-⟩:=pt2 hd6.b3;clear hd5;by_cases hy:ay=by_
    ·subst hy
     obtain⟨p0,p1,fr0,fr1⟩:=pt2 hd6.b0;go_upto_region 10 with fail;refine a0g (fun W8 hW8=> ?_);obtain⟨Y7,fY7,hd8⟩:=hd6.pt1 (a0j (Y+(dr-8)));rw[←hW8] at hd8;clear hW8 p0 p1 fr0 fr1 a0 a1 b0 b1 hd6;by_cases hx:ax=bx
     ·subst hx
      obtain⟨p0,p1,fr0,fr1⟩:=pt2 hd8.b0;obtain⟨a0,a1,-,-⟩:=pt2 hd8.b2;obtain⟨b0,b1,-,-⟩:=pt2 hd8.b3;go_upto_region 12 with fail;refine a0g (fun W9 hW9=> ?_);obtain⟨X7,fX7,hd7⟩:=hd8.pt0 (a0j (X+(dr-8)));rw[←hW9] at hd7;clear hW9 p0 p1 fr0 fr1 a0 a1 b0 b1 hd8;obtain⟨p0,p1,-,-⟩:=pt2 hd7.b0;obtain⟨y0,y1,y2,y3,y4,y5,y6,y7⟩:=a3s hd7.b1;go_wp2_with (first
       |(at_builtin;refine a0u hd7.tw (by rfl) _ _ 147 (by rfl) underlying147 a1j (by rfl) hd7.s0 (by rfl) rfl (a3n fX7 fY7) rfl (by omega) ?_;intro v9 S9 w9 hsl9 he9;obtain⟨a9,c9,rfl,-⟩:=hsl9.form;have hd8:=(hd7.evo he9).tail;obtain⟨z0,z1,z2,z3,z4,z5,z6,z7⟩:=a3s hd8.b0;have zf:=hd8.b0.frozen 1)
       |fail)
      have hd9:=((hd8.tailT.add hsl9).set 1 (.slice a9 (n+1) c9) (c':=b7k (41+m) (.slice a9 (n+1) c9) lev ⟨#[]⟩ ⟨#[]⟩ false 0 0) (by simp));go_roundw
      case rel=>exact⟨k+1,S9,_,n+1,by omega,by omega,by go_num,by omega,hd9⟩
      case measure=>simp[intOf];omega
     ·have hxb:(ax==bx)=false:=by simpa using hx
      obtain⟨a0,a1,-,-⟩:=pt2 hd8.b2;obtain⟨b0,b1,-,-⟩:=pt2 hd8.b3;go_upto_region 12 with fail;clear a0 a1 b0 b1;have hd7:=hd8;have fX7:=fX;clear hd8;obtain⟨p0,p1,-,-⟩:=pt2 hd7.b0;obtain⟨y0,y1,y2,y3,y4,y5,y6,y7⟩:=a3s hd7.b1;go_wp2_with (first
       |(at_builtin;refine a0u hd7.tw (by rfl) _ _ 147 (by rfl) underlying147 a1j (by rfl) hd7.s0 (by rfl) rfl (a3n fX7 fY7) rfl (by omega) ?_;intro v9 S9 w9 hsl9 he9;obtain⟨a9,c9,rfl,-⟩:=hsl9.form;have hd8:=(hd7.evo he9).tail;obtain⟨z0,z1,z2,z3,z4,z5,z6,z7⟩:=a3s hd8.b0;have zf:=hd8.b0.frozen 1)
       |fail)
      have hd9:=((hd8.tailT.add hsl9).set 1 (.slice a9 (n+1) c9) (c':=b7k (41+m) (.slice a9 (n+1) c9) lev ⟨#[]⟩ ⟨#[]⟩ false 0 0) (by simp));go_roundw
      case rel=>exact⟨k+1,S9,_,n+1,by omega,by omega,by go_num,by omega,hd9⟩
      case measure=>simp[intOf];omega
    ·have hyb:(ay==by_)=false:=by simpa using hy
     go_upto_region 10 with fail;clear a0 a1 b0 b1;have hd8:=hd6;have fY7:=fY;clear hd6;obtain⟨Y7,hY7⟩:∃y,y=Y:=⟨_,rfl⟩;rw[←hY7] at fY7 hd8;clear hY7;by_cases hx:ax=bx
     ·subst hx
      obtain⟨p0,p1,fr0,fr1⟩:=pt2 hd8.b0;obtain⟨a0,a1,-,-⟩:=pt2 hd8.b2;obtain⟨b0,b1,-,-⟩:=pt2 hd8.b3;go_upto_region 12 with fail;refine a0g (fun W9 hW9=> ?_);obtain⟨X7,fX7,hd7⟩:=hd8.pt0 (a0j (X+(dr-8)));rw[←hW9] at hd7;clear hW9 p0 p1 fr0 fr1 a0 a1 b0 b1 hd8;obtain⟨p0,p1,-,-⟩:=pt2 hd7.b0;obtain⟨y0,y1,y2,y3,y4,y5,y6,y7⟩:=a3s hd7.b1;go_wp2_with (first
       |(at_builtin;refine a0u hd7.tw (by rfl) _ _ 147 (by rfl) underlying147 a1j (by rfl) hd7.s0 (by rfl) rfl (a3n fX7 fY7) rfl (by omega) ?_;intro v9 S9 w9 hsl9 he9;obtain⟨a9,c9,rfl,-⟩:=hsl9.form;have hd8:=(hd7.evo he9).tail;obtain⟨z0,z1,z2,z3,z4,z5,z6,z7⟩:=a3s hd8.b0;have zf:=hd8.b0.frozen 1)
       |fail)
      have hd9:=((hd8.tailT.add hsl9).set 1 (.slice a9 (n+1) c9) (c':=b7k (41+m) (.slice a9 (n+1) c9) lev ⟨#[]⟩ ⟨#[]⟩ false 0 0) (by simp));go_roundw
      case rel=>exact⟨k+1,S9,_,n+1,by omega,by omega,by go_num,by omega,hd9⟩
      case measure=>simp[intOf];omega
     ·have hxb:(ax==bx)=false:=by simpa using hx
      obtain⟨a0,a1,-,-⟩:=pt2 hd8.b2;obtain⟨b0,b1,-,-⟩:=pt2 hd8.b3;go_upto_region 12 with fail;clear a0 a1 b0 b1;have hd7:=hd8;have fX7:=fX;clear hd8;obtain⟨p0,p1,-,-⟩:=pt2 hd7.b0;obtain⟨y0,y1,y2,y3,y4,y5,y6,y7⟩:=a3s hd7.b1;go_wp2_with (first
       |(at_builtin;refine a0u hd7.tw (by rfl) _ _ 147 (by rfl) underlying147 a1j (by rfl) hd7.s0 (by rfl) rfl (a3n fX7 fY7) rfl (by omega) ?_;intro v9 S9 w9 hsl9 he9;obtain⟨a9,c9,rfl,-⟩:=hsl9.form;have hd8:=(hd7.evo he9).tail;obtain⟨z0,z1,z2,z3,z4,z5,z6,z7⟩:=a3s hd8.b0;have zf:=hd8.b0.frozen 1)
       |fail)
      have hd9:=((hd8.tailT.add hsl9).set 1 (.slice a9 (n+1) c9) (c':=b7k (41+m) (.slice a9 (n+1) c9) lev ⟨#[]⟩ ⟨#[]⟩ false 0 0) (by simp));go_roundw
      case rel=>exact⟨k+1,S9,_,n+1,by omega,by omega,by go_num,by omega,hd9⟩
      case measure=>simp[intOf];omega
  ·have hge:¬(k:Int)≤(M:Int):=by omega
   have hn4:n≤4:=by omega
   clear hlt hk1 hkM hn;obtain⟨b0,b1,-,-⟩:=pt2 hd.b2;obtain⟨y0,y1,y2,y3,y4,y5,y6,y7⟩:=a3s hd.b0;go_upto_region 14 with (first
    |(at_builtin;refine a0u hd.tw (by rfl) _ _ 147 (by rfl) underlying147 a1j (by rfl) hd.s0 (by rfl) rfl (a3n fc fd) rfl (by omega) ?_;intro v9 S9 w9 hsl9 he9;obtain⟨a9,c9,rfl,-⟩:=hsl9.form;have hd8:=hd.evo he9;obtain⟨z0,z1,z2,z3,z4,z5,z6,z7⟩:=a3s hd8.b0;have zf:=hd8.b0.frozen 1)
    |fail)
   refine a0g (fun WA hWA=> ?_);have hdA:=(hd8.tailT.add hsl9).put hWA (c':=b7k (41+m) (.slice a9 (n+1) c9) lev ⟨#[]⟩ ⟨#[]⟩ false 0 0) rfl;clear hd hd8 hsl9 he9 hWA z0 z1 z2 z3 z4 z5 z6 z7 zf b0 b1 y0 y1 y2 y3 y4 y5 y6 y7;have st1:Strs #[.string ⟨#[112,97,116,104]⟩,.string ⟨#[114,111,97,100]⟩]:=a5z [⟨#[112,97,116,104]⟩,⟨#[114,111,97,100]⟩] (by decide);go_upto_region 15 with (first
    |(go_at_call 73;(with_reducible refine ((hdA.box _ _).call 2 (by omega) (by omega)).mono ?_);rintro e Wb⟨q,rfl,q0,q1,hb⟩;obtain⟨q,rfl⟩:=Int.eq_ofNat_of_zero_le q0;obtain⟨s1,cs1,hs1⟩:=st1.at_ hb.b0 (q:=q) (by simp;omega);have hdB:=hb.tail;obtain⟨z0,z1,z2,z3,z4,z5,z6,z7⟩:=a3s hdB.b0;have zf:=hdB.b0.frozen 3)
    |fail)
   refine a0g (fun WC hWC=> ?_);have hdC:=hdB.put hWC (c':=b7k (41+m) (.slice a9 (n+1) c9) lev s1 ⟨#[]⟩ false 0 0) rfl;clear hdA hdB hb hWC z0 z1 z2 z3 z4 z5 z6 z7 zf cs1 st1;have st2:Strs #[.string ⟨#[]⟩,.string ⟨#[]⟩,.string ⟨#[82,105,110,103]⟩,.string ⟨#[79,108,100,32,87,97,121]⟩]:=a5z [⟨#[]⟩,⟨#[]⟩,⟨#[82,105,110,103]⟩,⟨#[79,108,100,32,87,97,121]⟩] (by decide);go_upto_region 16 with (first
    |(go_at_call 73;(with_reducible refine ((hdC.box _ _).call 4 (by omega) (by omega)).mono ?_);rintro e Wd⟨q',rfl,q'0,q'1,hd⟩;obtain⟨q',rfl⟩:=Int.eq_ofNat_of_zero_le q'0;obtain⟨s2,cs2,hs2⟩:=st2.at_ hd.b0 (q:=q') (by simp;omega);have hdD:=hd.tail;obtain⟨z0,z1,z2,z3,z4,z5,z6,z7⟩:=a3s hdD.b0;have zf:=hdD.b0.frozen 4)
    |fail)
   refine a0g (fun WE hWE=> ?_);have hdE:=hdD.put hWE (c':=b7k (41+m) (.slice a9 (n+1) c9) lev s1 s2 false 0 0) rfl;clear hdC hdD hd hWE z0 z1 z2 z3 z4 z5 z6 z7 zf cs2 st2;go_upto_region 17 with (first
    |(go_at_call 73;(with_reducible refine (hdE.call 4 (by omega) (by omega)).mono ?_);rintro e Wf⟨s,rfl,g0,g1,hdF⟩;obtain⟨z0,z1,z2,z3,z4,z5,z6,z7⟩:=a3s hdF.b0;have zf:=hdF.b0.frozen 5)
    |fail)
   refine a0g (fun WG hWG=> ?_);have hdG:=hdF.put hWG (c':=b7k (41+m) (.slice a9 (n+1) c9) lev s1 s2 (s==0) 0 0) rfl;clear hdE hdF hWG z0 z1 z2 z3 z4 z5 z6 z7 zf;obtain⟨sb,hsb⟩:∃b,(s==0)=b:=⟨_,rfl⟩;rw[hsb] at hdG;go_upto_region 18 with (first
    |(go_at_call 73;(with_reducible refine (hdG.call 60 (by omega) (by omega)).mono ?_);rintro e Wh⟨t,rfl,t0,t1,hdH⟩;obtain⟨z0,z1,z2,z3,z4,z5,z6,z7⟩:=a3s hdH.b0;have zf:=hdH.b0.frozen 6)
    |fail)
   refine a0g (fun WI hWI=> ?_);have hdI:=hdH.put hWI (c':=b7k (41+m) (.slice a9 (n+1) c9) lev s1 s2 sb (1+t) 0) rfl;clear hdG hdH hWI z0 z1 z2 z3 z4 z5 z6 z7 zf;go_upto_region 19 with (first
    |(go_at_call 73;(with_reducible refine (hdI.call 3 (by omega) (by omega)).mono ?_);rintro e Wj⟨x,rfl,x0,x1,hdJ⟩)
    |(go_at_call 73;(with_reducible refine (hdJ.call 2 (by omega) (by omega)).mono ?_);rintro e Wk⟨y,rfl,y0,y1,hdK⟩;obtain⟨z0,z1,z2,z3,z4,z5,z6,z7⟩:=a3s hdK.b0;have zf:=hdK.b0.frozen 7)
    |fail)
   refine a0g (fun WL hWL=> ?_);obtain⟨d7,f7,hdL⟩:=hdK.wd hWL (by first|with_reducible (first|exact a0j _|exact a0l _|assumption|exact a0m (by omega))|exact⟨by omega,by omega⟩);clear hdI hdJ hdK hWL z0 z1 z2 z3 z4 z5 z6 z7 zf;obtain⟨z0,z1,z2,z3,z4,z5,z6,z7⟩:=a3s hdL.b0;have f0:a0i (41+(m:Int)):=⟨by omega,by omega⟩;have f6:a0i (1+t):=⟨by omega,by omega⟩;go_wp2_with (first
    |(at_builtin;refine a0u hdL.tw (by rfl) _ _ 34 (by rfl) underlying34 a4a (by rfl) hdL.s1 (by rfl) rfl (c6g f0 fl hs1 hs2 f6 f7 hdL.s0 (by omega)) rfl (by omega) ?_;intro v9 S9 w9 hsl9 he9)
    |fail)
   go_ret;exact⟨S9,v9,rfl,hsl9,(hdL.evo he9).td,(hdL.evo he9).st.ev⟩
theorem DY.fin {n₀ D:Nat}{sv:Value}{xs:List Int}{S S':BS}{w W1 W':World}{L:a8b}{T:SlL}(h:DY n₀ D sv xs S W1 S' W' L T)(h0:Ev noB S w S W1)(hD:w.heap.size≤D):Ev noB S w S' W':=h0.wide h.st.ev (fun b hb=>by cases hb;exact hD)
theorem TD.new {S:BS}{w:World}{n₀:Nat}{sv:Value}{xs:List Int}(hT:TW S w)(hlow:∀b,S b→n₀≤b)(hn:n₀≤w.heap.size)(hI:Intz n₀ w sv xs):TD S n₀ w.heap.size sv xs (w.alloc (.cells #[sv,.int .i64 0] 137)):=by
 have hb:Below w.heap.size w (w.alloc (.cells #[sv,.int .i64 0] 137)):=(zR _ _).alloc (yR _) _;exact⟨(Ev.of_below (X:=noB) hT hb).ok,⟨0,Nat.zero_le _,Blk.new _ _ _⟩,hI.ints.below (hb.mono hn),hn,hI.len,hlow,fun h=>Nat.lt_irrefl _ (hT.lt h)⟩
def WsR (n₀ D:Nat)(sv:Value)(xs:List Int)(S:BS)(w:World)(a top g:Nat)(ov kk:Value)(wr:World):Prop :=
 ∃(i:Nat) (S':BS) (n:Nat),i≤top∧kk= .int .i64 (i:Nat)∧n≤a+g*i∧DY n₀ D sv xs S w S' wr [] [(149,ov,n)]
theorem c3c (n₀:Nat)(S:BS)(w:World)(hT:TW S w)(hlow:∀b,S b→n₀≤b)(hn0:n₀≤w.heap.size)(sv:Value)(xs:List Int)(hI:Intz n₀ w sv xs) :
 Calls prog 74 #[sv] w fun e w'=>∃S' v,e= .returned v∧(∃n,SL S' w' 149 v n∧n≤100)∧Ev noB S w S' w':=by
 have htd:=TD.new hT hlow hn0 hI;obtain⟨sa,sc,rfl⟩:∃a c,sv= .slice a xs.length c:=by
  obtain⟨⟨a,c,e,-⟩,-⟩:=hI;exact⟨a,c,e⟩
 have hev1:Ev noB S w S (w.alloc (.cells #[.slice sa xs.length sc,.int .i64 0] 137)):=Ev.of_below hT (by repeat' (first|with_reducible (first|exact zR _ _|exact yR _|assumption|refine zG ?_ ?_ _|refine zA ?_ ?_ _|refine zS ?_ ?_ _|refine zD ?_|refine yA ?_|refine yG ?_|refine yS ?_|refine yD ?_)|omega|(dsimp only;omega)));have hDw:w.heap.size≤w.heap.size:=yR _;have fz0:a0i 0:=⟨by decide,by decide⟩;have fz1:a0i 1:=⟨by decide,by decide⟩;have fzm:a0i (-1):=⟨by decide,by decide⟩;go_enter func74,ntmps74;go_wp2_with fail;refine a0g (fun W1 hW1=> ?_);rw[←hW1] at htd hev1;obtain⟨D,hD⟩:∃b,w.heap.size=b:=⟨_,rfl⟩;have hDw':w.heap.size≤D:=by omega
 rw[hD] at htd;rw[hD];obtain⟨sv,hsv⟩:∃v,Value.slice sa xs.length sc=v:=⟨_,rfl⟩;rw[hsv] at htd;rw[hsv];clear hW1 hD hDw hsv hI;have hDw:=hDw';clear hDw';have hd1:=htd.dw.add (SL.nil S W1 149);go_loopw [4,5] (fun ov kk wr=>WsR n₀ D sv xs S W1 0 2 3 ov kk wr) (fun _ kk _=>2-(intOf kk).toNat)
 case atStart=>exact⟨0,S,0,by omega,rfl,by omega,hd1⟩
 case round =>
  clear hd1;obtain⟨j,S1,n1,hj,rfl,hn1,hd⟩:=hrel;by_cases hlt:j<2
  ·have hltI:(j:Int)<2:=by omega
   go_wp2_with fail;go_loopw [4,6] (fun ov kk wr=>WsR n₀ D sv xs S W1 (3*j) 3 1 ov kk wr) (fun _ kk _=>3-(intOf kk).toNat)
   case atStart=>exact⟨0,S1,n1,by omega,rfl,by omega,hd⟩
   case round =>
    clear hd;obtain⟨i,S2,n,hi,rfl,hn,hd⟩:=hrel;by_cases hlti:i<3
    ·have hltiI:(i:Int)<3:=by omega
     go_upto_if 21 with (first
      |(go_at_call 73;(with_reducible refine (hd.call 2 (by omega) (by omega)).mono ?_);rintro e W2⟨q,rfl,q0,q1,hd2⟩)
      |fail)
     clear hd;by_cases hq:q=0
     ·subst hq
      go_wp2_with (first
       |(go_at_call 133;(with_reducible refine (a1y _ _ W2).mono ?_);rintro e W3⟨⟨x1,y1,rfl,fx1,fy1⟩,hb3⟩)
       |(go_at_call 133;(with_reducible refine (a1y _ _ W3).mono ?_);rintro e W5⟨⟨x2,y2,rfl,fx2,fy2⟩,hb5⟩)
       |(go_at_call 132;(with_reducible refine (a6a n₀ D sv xs _ W5 ((hd2.up hb3).up hb5).td _ _ ((hd2.up hb3).up hb5).s0 (by omega) _ _ _ _ _ fx1 fy1 fx2 fy2 (by first|exact fz0|exact fz1|exact fzm)).mono ?_);rintro e W6⟨S6,v6,rfl,hsl6,ht6,he6⟩)
       |fail)
      have hd6:=(((hd2.up hb3).up hb5).then_ ht6 he6).tailT.add hsl6;go_roundw
      case rel=>exact⟨i+1,S6,n+1,by omega,by go_num,by omega,hd6⟩
      case measure=>simp[intOf];omega
     ·have hqb:(q==0)=false:=by simpa using hq
      go_wp2_with fail;go_roundw
      case rel=>exact⟨i+1,S2,n,by omega,by go_num,by omega,hd2⟩
      case measure=>simp[intOf];omega
    ·have hge:¬(i:Int)<3:=by omega
     go_wp2_with fail;go_roundw
     case rel=>exact⟨j+1,S2,n,by omega,by go_num,by omega,hd⟩
     case measure=>simp[intOf];omega
  ·have hge:¬(j:Int)<2:=by omega
   go_wp2_with fail;go_loopw [4,7] (fun ov kk wr=>WsR n₀ D sv xs S W1 6 4 1 ov kk wr) (fun _ kk _=>4-(intOf kk).toNat)
   case atStart=>exact⟨0,S1,n1,by omega,rfl,by omega,hd⟩
   case round =>
    clear hd;obtain⟨i,S2,n,hi,rfl,hn,hd⟩:=hrel;obtain⟨oa,oc,rfl,-⟩:=hd.s0.form;by_cases hlti:i<4
    ·have hltiI:(i:Int)<4:=by omega
     by_cases hlen:n<5
     ·have hlenI:(n:Int)<5:=by omega
      go_upto_if 43 with (first
       |(go_at_call 73;(with_reducible refine (hd.call 2 (by omega) (by omega)).mono ?_);rintro e W2⟨q,rfl,q0,q1,hd2⟩)
       |fail)
      clear hd;by_cases hq:q=0
      ·subst hq
       go_wp2_with (first
        |(go_at_call 133;(with_reducible refine (a1y _ _ W2).mono ?_);rintro e W3⟨⟨x1,y1,rfl,fx1,fy1⟩,hb3⟩)
        |(go_at_call 133;(with_reducible refine (a1y _ _ W3).mono ?_);rintro e W5⟨⟨x2,y2,rfl,fx2,fy2⟩,hb5⟩)
        |(go_at_call 132;(with_reducible refine (a6a n₀ D sv xs _ W5 ((hd2.up hb3).up hb5).td _ _ ((hd2.up hb3).up hb5).s0 (by omega) _ _ _ _ _ fx1 fy1 fx2 fy2 (by first|exact fz0|exact fz1|exact fzm)).mono ?_);rintro e W6⟨S6,v6,rfl,hsl6,ht6,he6⟩)
        |fail)
       have hd6:=(((hd2.up hb3).up hb5).then_ ht6 he6).tailT.add hsl6;go_roundw
       case rel=>exact⟨i+1,S6,n+1,by omega,by go_num,by omega,hd6⟩
       case measure=>simp[intOf];omega
      ·have hqb:(q==0)=false:=by simpa using hq
       go_wp2_with fail;go_roundw
       case rel=>exact⟨i+1,S2,n,by omega,by go_num,by omega,hd2⟩
       case measure=>simp[intOf];omega
     ·have hlenI:¬(n:Int)<5:=by omega
      go_upto_region 16 with fail;go_upto_if 53 with (first
       |(go_at_call 73;(with_reducible refine (hd.call 3 (by omega) (by omega)).mono ?_);rintro e W2⟨q,rfl,q0,q1,hd2⟩)
       |fail)
      by_cases hq:q=0
      ·subst hq
       go_upto_region 18 with (first
        |(go_at_call 133;(with_reducible refine (a1y 0 0 W2).mono ?_);rintro e W3⟨⟨x1,y1,rfl,fx1,fy1⟩,hb3⟩)
        |(go_at_call 73;(with_reducible refine ((hd2.up hb3).call 2 (by omega) (by omega)).mono ?_);rintro e W4⟨r,rfl,r0,r1,hd4⟩)
        |(go_at_call 133;(with_reducible refine (a1y _ 1 W4).mono ?_);rintro e W5⟨⟨x2,y2,rfl,fx2,fy2⟩,hb5⟩)
        |(go_at_call 132;(with_reducible refine (a6a n₀ D sv xs _ W5 (hd4.up hb5).td _ _ (hd4.up hb5).s0 (by omega) _ _ _ _ _ fx1 fy1 fx2 fy2 (by first|exact fz0|exact fz1|exact fzm)).mono ?_);rintro e W6⟨S6,v6,rfl,hsl6,ht6,he6⟩)
        |fail)
       have hd6:=((hd4.up hb5).then_ ht6 he6).tailT.add hsl6;clear hd hd2 hb3 hd4 hb5 ht6 he6 hsl6;go_upto_if 64 with (first
        |(go_at_call 73;(with_reducible refine (hd6.call 4 (by omega) (by omega)).mono ?_);rintro e W7⟨q2,rfl,q20,q21,hd7⟩)
        |fail)
       by_cases hq2:q2=0
       ·subst hq2
        go_wp2_with (first
         |(go_at_call 133;(with_reducible refine (a1y 1 1 W7).mono ?_);rintro e W8⟨⟨x3,y3,rfl,fx3,fy3⟩,hb8⟩)
         |(go_at_call 133;(with_reducible refine (a1y 3 0 W8).mono ?_);rintro e W9⟨⟨x4,y4,rfl,fx4,fy4⟩,hb9⟩)
         |(go_at_call 132;(with_reducible refine (a6a n₀ D sv xs _ W9 ((hd7.up hb8).up hb9).td _ _ ((hd7.up hb8).up hb9).s0 (by omega) _ _ _ _ _ fx3 fy3 fx4 fy4 (by first|exact fz0|exact fz1|exact fzm)).mono ?_);rintro e W10⟨S10,v10,rfl,hsl10,ht10,he10⟩)
         |fail)
        go_ret;exact⟨S10,v10,rfl,⟨_,hsl10,by omega⟩,(((hd7.up hb8).up hb9).then_ ht10 he10).fin hev1 hDw⟩
       ·have hqb2:(q2==0)=false:=by simpa using hq2
        go_wp2_with fail;go_ret;exact⟨_,_,rfl,⟨_,hd7.s0,by omega⟩,hd7.fin hev1 hDw⟩
      ·have hqb:(q==0)=false:=by simpa using hq
       go_upto_region 18 with fail;have hd6:=hd2;clear hd hd2;go_upto_if 64 with (first
        |(go_at_call 73;(with_reducible refine (hd6.call 4 (by omega) (by omega)).mono ?_);rintro e W7⟨q2,rfl,q20,q21,hd7⟩)
        |fail)
       by_cases hq2:q2=0
       ·subst hq2
        go_wp2_with (first
         |(go_at_call 133;(with_reducible refine (a1y 1 1 W7).mono ?_);rintro e W8⟨⟨x3,y3,rfl,fx3,fy3⟩,hb8⟩)
         |(go_at_call 133;(with_reducible refine (a1y 3 0 W8).mono ?_);rintro e W9⟨⟨x4,y4,rfl,fx4,fy4⟩,hb9⟩)
         |(go_at_call 132;(with_reducible refine (a6a n₀ D sv xs _ W9 ((hd7.up hb8).up hb9).td _ _ ((hd7.up hb8).up hb9).s0 (by omega) _ _ _ _ _ fx3 fy3 fx4 fy4 (by first|exact fz0|exact fz1|exact fzm)).mono ?_);rintro e W10⟨S10,v10,rfl,hsl10,ht10,he10⟩)
         |fail)
        go_ret;exact⟨S10,v10,rfl,⟨_,hsl10,by omega⟩,(((hd7.up hb8).up hb9).then_ ht10 he10).fin hev1 hDw⟩
       ·have hqb2:(q2==0)=false:=by simpa using hq2
        go_wp2_with fail;go_ret;exact⟨_,_,rfl,⟨_,hd7.s0,by omega⟩,hd7.fin hev1 hDw⟩
    ·have hge4:¬(i:Int)<4:=by omega
     go_upto_region 16 with fail;go_upto_if 53 with (first
      |(go_at_call 73;(with_reducible refine (hd.call 3 (by omega) (by omega)).mono ?_);rintro e W2⟨q,rfl,q0,q1,hd2⟩)
      |fail)
     by_cases hq:q=0
     ·subst hq
      go_upto_region 18 with (first
       |(go_at_call 133;(with_reducible refine (a1y 0 0 W2).mono ?_);rintro e W3⟨⟨x1,y1,rfl,fx1,fy1⟩,hb3⟩)
       |(go_at_call 73;(with_reducible refine ((hd2.up hb3).call 2 (by omega) (by omega)).mono ?_);rintro e W4⟨r,rfl,r0,r1,hd4⟩)
       |(go_at_call 133;(with_reducible refine (a1y _ 1 W4).mono ?_);rintro e W5⟨⟨x2,y2,rfl,fx2,fy2⟩,hb5⟩)
       |(go_at_call 132;(with_reducible refine (a6a n₀ D sv xs _ W5 (hd4.up hb5).td _ _ (hd4.up hb5).s0 (by omega) _ _ _ _ _ fx1 fy1 fx2 fy2 (by first|exact fz0|exact fz1|exact fzm)).mono ?_);rintro e W6⟨S6,v6,rfl,hsl6,ht6,he6⟩)
       |fail)
      have hd6:=((hd4.up hb5).then_ ht6 he6).tailT.add hsl6;clear hd hd2 hb3 hd4 hb5 ht6 he6 hsl6;go_upto_if 64 with (first
       |(go_at_call 73;(with_reducible refine (hd6.call 4 (by omega) (by omega)).mono ?_);rintro e W7⟨q2,rfl,q20,q21,hd7⟩)
       |fail)
      by_cases hq2:q2=0
      ·subst hq2
       go_wp2_with (first
        |(go_at_call 133;(with_reducible refine (a1y 1 1 W7).mono ?_);rintro e W8⟨⟨x3,y3,rfl,fx3,fy3⟩,hb8⟩)
        |(go_at_call 133;(with_reducible refine (a1y 3 0 W8).mono ?_);rintro e W9⟨⟨x4,y4,rfl,fx4,fy4⟩,hb9⟩)
        |(go_at_call 132;(with_reducible refine (a6a n₀ D sv xs _ W9 ((hd7.up hb8).up hb9).td _ _ ((hd7.up hb8).up hb9).s0 (by omega) _ _ _ _ _ fx3 fy3 fx4 fy4 (by first|exact fz0|exact fz1|exact fzm)).mono ?_);rintro e W10⟨S10,v10,rfl,hsl10,ht10,he10⟩)
        |fail)
       go_ret;exact⟨S10,v10,rfl,⟨_,hsl10,by omega⟩,(((hd7.up hb8).up hb9).then_ ht10 he10).fin hev1 hDw⟩
      ·have hqb2:(q2==0)=false:=by simpa using hq2
       go_wp2_with fail;go_ret;exact⟨_,_,rfl,⟨_,hd7.s0,by omega⟩,hd7.fin hev1 hDw⟩
     ·have hqb:(q==0)=false:=by simpa using hq
      go_upto_region 18 with fail;have hd6:=hd2;clear hd hd2;go_upto_if 64 with (first
       |(go_at_call 73;(with_reducible refine (hd6.call 4 (by omega) (by omega)).mono ?_);rintro e W7⟨q2,rfl,q20,q21,hd7⟩)
       |fail)
      by_cases hq2:q2=0
      ·subst hq2
       go_wp2_with (first
        |(go_at_call 133;(with_reducible refine (a1y 1 1 W7).mono ?_);rintro e W8⟨⟨x3,y3,rfl,fx3,fy3⟩,hb8⟩)
        |(go_at_call 133;(with_reducible refine (a1y 3 0 W8).mono ?_);rintro e W9⟨⟨x4,y4,rfl,fx4,fy4⟩,hb9⟩)
        |(go_at_call 132;(with_reducible refine (a6a n₀ D sv xs _ W9 ((hd7.up hb8).up hb9).td _ _ ((hd7.up hb8).up hb9).s0 (by omega) _ _ _ _ _ fx3 fy3 fx4 fy4 (by first|exact fz0|exact fz1|exact fzm)).mono ?_);rintro e W10⟨S10,v10,rfl,hsl10,ht10,he10⟩)
        |fail)
       go_ret;exact⟨S10,v10,rfl,⟨_,hsl10,by omega⟩,(((hd7.up hb8).up hb9).then_ ht10 he10).fin hev1 hDw⟩
      ·have hqb2:(q2==0)=false:=by simpa using hq2
       go_wp2_with fail;go_ret;exact⟨_,_,rfl,⟨_,hd7.s0,by omega⟩,hd7.fin hev1 hDw⟩
end
end Go.Proofs.YtfocdbjceedagaaGreatDoor
