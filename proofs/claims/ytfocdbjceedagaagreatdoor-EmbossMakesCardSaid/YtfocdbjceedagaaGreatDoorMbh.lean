/-
  Parts.
-/
import Derived.Test.YtfocdbjceedagaaGreatDoorMbg
set_option linter.unusedVariables false
set_option linter.unusedSimpArgs false
set_option maxHeartbeats 8000000
set_option maxRecDepth 100000
namespace Go.Proofs.YtfocdbjceedagaaGreatDoor
open Go.RowKit Go.Shelf
attribute [local go_sem] Oper.semAt_some
attribute [local go_sem ↓] Go.wp_at_zero Go.wp_at_succ
theorem c5c (n r:Int)(w:World)(hr:max n (-n)=r)(h0 : -4611686018427387904<=n)(h1:n<=4611686018427387904) :
 Calls Tryz.prog 142 #[.int .i64 n] w λe w'=>e= .returned (.int .i64 r)/\w=w':=by
 subst hr;have hw:IntKind.i64.wrap (-n) = -n:=a0k oM oM;go_enter Tryz.func142,Tryz.ntmps142;go_wp2_with fail;go_ret;exact⟨rfl,rfl⟩
def a7f (a b:a0m):List a0m:=b7n (λk=>a2p a b k) (a2x a b+1).toNat
theorem d7j (a b:a0m):max (max (b.1-a.1) (-(b.1-a.1))) (max (b.2-a.2) (-(b.2-a.2)))=a2x a b:=by
 unfold a2x c7l mx;repeat' split
 all_goals omega
theorem a6z {a b:a0m}(ha:Near5 a)(hb:Near5 b):0<=a2x a b/\a2x a b<=200000:=by
 obtain⟨a0,a1,a2,a3⟩:=ha;obtain⟨b0,b1,b2,b3⟩:=hb;refine⟨?_,c1a oM oM oM oM⟩;have:=c8f (b.1-a.1) (-(b.1-a.1)) (b.2-a.2) (-(b.2-a.2));unfold a2x;omega
theorem a9v {a b M:Int}(hb:1<=b)(hM:0<=M)(h0 : -M<=a)(h1:a<=M) : -M<=a / b/\a / b<=M:=by
 have h2:=Int.mul_le_mul_of_nonneg_left hb hM;rw[Int.mul_one]at h2;refine⟨Int.le_ediv_of_mul_le oM ?_,Int.ediv_le_of_le_mul oM oM⟩;rw[Int.neg_mul];omega
theorem c3t {a b:Int}(a0:0<=a)(a1:a<=400000)(b0 : -200000<=b)(b1:b<=200000) : -80000000000<=a*b/\a*b<=80000000000:=by
 have h1:=Int.mul_le_mul_of_nonneg_left b1 a0;have h2:=Int.mul_le_mul_of_nonneg_left b0 a0;omega
section
variable {w W W':World}{B2 B3 base:Nat}{ax ay bx by_:Int}{lv:Value}{l:List a0m}
theorem LN.a0 (h:LN w B2 B3 base ax ay bx by_ lv l W):W.cell? ⟨B2,0,none⟩=some (.int .i64 ax):=h.k2.cell 0
theorem LN.a1 (h:LN w B2 B3 base ax ay bx by_ lv l W):W.cell? ⟨B2,1,none⟩=some (.int .i64 ay):=h.k2.cell 1
theorem LN.appended {g cap:Nat}{p:a0m}(h:LN w B2 B3 base ax ay bx by_ lv l W)(hg:W.grownBy W' lv.ownBlock)(hown:W'.ownsRow base 26 2 (.slice (some ⟨g,0,none⟩) (l.length+1) cap) (l.length+1) (l.flatMap a5u++a5u p)) :
 LN w B2 B3 base ax ay bx by_ (.slice (some ⟨g,0,none⟩) (l.length+1) cap) (l++[p]) W':=by
 have hne:∀B,B<base->lv.ownBlock≠some B:=λB hB e=>by have:=(h.row.lt _ e).1;omega
 refine⟨h.k2.kept hg (hne _ h.l2),h.k3.kept hg (hne _ h.l3),h.l2,h.l3,h.lw,?_,h.below.grown hg h.below.size (λr e=>by have:=(h.row.lt _ e).1;have:=h.lw;omega),Nat.le_trans h.lb hg.size⟩;rw[List.length_append,List.flatMap_append];simpa using hown
end
theorem d7k {X:World}{P:Nat}{x y:Int}(h:Blk X P #[.int .i64 x,.int .i64 y] 26):∀j u,(a5u (x,y))[j]? =some u->X.cell? ((⟨P,0,none⟩:Addr).add j)=some u:=λj u hj=>by
 rw[Go.WideShapes.add_plain,Nat.zero_add];match j,hj with
 |0,hj=>exact(h.cell 0).trans hj
 |1,hj=>exact(h.cell 1).trans hj
 |j+2,hj=>simp at hj
theorem b5j :(Tryz.prog.info? 26).map (λi=>(i.zero,i.size,i.bytes))=some (some (.agg #[.int .i64 0,.int .i64 0]),2,16):=by kernel_rfl
theorem d4o {X:World}{L base:Nat}{x y:Int}(h:Blk X L #[.int .i64 x,.int .i64 y] 26)(hb:base<=L):X.ownsRow base 26 2 (.slice (some ⟨L,0,none⟩) 1 1) 1 [.int .i64 x,.int .i64 y] :=
 ⟨rfl,.inr ⟨L,1,_,rfl,hb,h,yR _,by unfold maxLen;omega,rfl,rfl⟩⟩
theorem d0t (a b:a0m)(w:World)(ha:Near5 a)(hb:Near5 b) :
 Calls Tryz.prog 91 #[.agg #[.int .i64 a.1,.int .i64 a.2],.agg #[.int .i64 b.1,.int .i64 b.2]] w λe w'=>∃v base,e= .returned v/\w.heap.size<=base/\w'.ownsRow base 26 2 v (a7f a b).length ((a7f a b).flatMap a5u)/\Below w.heap.size w w':=by
 obtain⟨N0,N1⟩:=a6z ha hb;have hN:=d7j a b;obtain⟨ax,ay⟩:=a;obtain⟨bx,by_⟩:=b;obtain⟨a0,a1,a2,a3⟩:=ha;obtain⟨b0,b1,b2,b3⟩:=hb;simp only at a0 a1 a2 a3 b0 b1 b2 b3 hN;obtain⟨N,hNe⟩:=zE (a2x (ax,ay) (bx,by_));rw[hNe]at hN N0 N1;obtain⟨i0,hi0,hz0,hz1,hz2⟩:=info_parts b5j;obtain⟨mX,hmX⟩:=zE (max (bx-ax) (-(bx-ax)));obtain⟨mY,hmY⟩:=zE (max (by_-ay) (-(by_-ay)));rw[hmX,hmY]at hN;have q1:IntKind.i64.wrap (bx-ax)=bx-ax:=a0k oM oM;have q2:IntKind.i64.wrap (by_-ay)=by_-ay:=a0k oM oM;go_enter Tryz.func91,Tryz.ntmps91;go_wp2_with fail;first|with_reducible refine a0f 12 zM zM ?_|with_reducible refine a0i 12 zM zM ?_
 simp only[zT];repeat(first|go_big_quiet_step (first|(go_at_call 142;exact Calls.grow_of_same (c5c _ _ _ (by first|with_reducible exact hmX|with_reducible exact hmY) oM oM))|fail)|quiet_step (first|(go_at_call 142;exact Calls.grow_of_same (c5c _ _ _ (by first|with_reducible exact hmX|with_reducible exact hmY) oM oM))|fail))
 refine wpQuiet_nil ?_;intro _ hw_;obtain⟨p,hw_⟩:=hw_;subst hw_;replace hmX:=Lib.hid hmX;replace hmY:=Lib.hid hmY;by_cases hz:N=0
 ·subst hz
  have hLP:a7f (ax,ay) (bx,by_)=[(ax,ay)]:=by
   unfold a7f a2p;rw[hNe];rfl
  go_wp2_with fail;have kL:=Blk.new (((w.alloc (.cells #[.int .i64 ax,.int .i64 ay] 26)).alloc (.cells #[.int .i64 bx,.int .i64 by_] 26)).growBy p) #[.int .i64 ax,.int .i64 ay] 26;simp only[World.size_alloc,World.size_growBy]at kL;have hrow:=d4o (base:=w.heap.size) kL oM;go_ret;rw[hLP];exact⟨_,w.heap.size,rfl,yR _,hrow,zC⟩
 ·have hNp:0<N:=oM
  have hNb:(N==0)=false:=by simpa using hz
  go_wp2_with fail;have k2:=((Blk.new w #[.int .i64 ax,.int .i64 ay] 26).alloc (.cells #[.int .i64 bx,.int .i64 by_] 26)).grow p;have k3:=(Blk.new (w.alloc (.cells #[.int .i64 ax,.int .i64 ay] 26)) #[.int .i64 bx,.int .i64 by_] 26).grow p;rw[World.size_alloc]at k3;have hB:Below w.heap.size w (((w.alloc (.cells #[.int .i64 ax,.int .i64 ay] 26)).alloc (.cells #[.int .i64 bx,.int .i64 by_] 26)).growBy p):=zC;obtain⟨W0,hW0⟩:=zE ((((w.alloc (.cells #[.int .i64 ax,.int .i64 ay] 26)).alloc (.cells #[.int .i64 bx,.int .i64 by_] 26)).growBy p));rw[hW0]at k2 k3 hB ⊢;clear hW0;have hL0:LN w w.heap.size (w.heap.size+1) W0.heap.size ax ay bx by_ (.slice none 0 0) [] W0:=⟨k2,k3,k2.lt,k3.lt,hB.size,World.ownsRow_nil _ _ _ _,hB,yR _⟩;clear k2 k3 hB;obtain⟨B3,hB3⟩:=zE (w.heap.size+1);obtain⟨B2,hB2⟩:=zE w.heap.size;rw[hB3,hB2]at hL0 ⊢;replace hB2:=Lib.hid hB2;clear hB3;go_loopw [6,7] (λv i wr=>∃t:Nat,(t:Int)<=N+1/\i= .int .i64 (t:Nat)/\LN w B2 B3 W0.heap.size ax ay bx by_ v (b7n (λk=>a2p (ax,ay) (bx,by_) k) t) wr) (λ_ i _=>(N+1).toNat-(intOf i).toNat)
  case atStart=>exact⟨0,oM,rfl,by simpa[b7n]using hL0⟩
  case round =>
   clear hL0;obtain⟨t,ht,rfl,hM⟩:=hrel;by_cases hlt:(t:Int)<=N
   ·have hprod:∀d,-200000<=d->d<=200000 -> -80000000000<=(2*(t:Int))*d/\(2*(t:Int))*d<=80000000000:=λd h0 h1=>c3t oM oM h0 h1
    obtain⟨X0,X1⟩:=hprod (bx-ax) oM oM;obtain⟨Y0,Y1⟩:=hprod (by_-ay) oM oM;have hat:a2p (ax,ay) (bx,by_) t=(ax+(2*t*(bx-ax)+N) / (2*N),ay+(2*t*(by_-ay)+N) / (2*N)):=a9e hNe hNp;have hsucc:b7n (λk:Nat=>a2p (ax,ay) (bx,by_) k) (t+1)=b7n (λk:Nat=>a2p (ax,ay) (bx,by_) k) t++[a2p (ax,ay) (bx,by_) t]:=b7z _ t;rw[hat]at hsucc;obtain⟨ox0,ox1⟩:=a9v (a:=2*t*(bx-ax)+N) (b:=2*N) (M:=100000000000) oM oM oM oM;obtain⟨oy0,oy1⟩:=a9v (a:=2*t*(by_-ay)+N) (b:=2*N) (M:=100000000000) oM oM oM oM;have hfx:=λW=>a8v (a:=2*t*(bx-ax)+N) (b:=2*N) rfl W oM oM oM oM
    have hfy:=λW=>a8v (a:=2*t*(by_-ay)+N) (b:=2*N) rfl W oM oM oM oM
    have s1:IntKind.i64.wrap (2*(t:Int))=2*t:=a0k oM oM;have s2:IntKind.i64.wrap (2*(t:Int)*(bx-ax))=2*t*(bx-ax):=a0k oM oM;have s3:IntKind.i64.wrap (2*(t:Int)*(by_-ay))=2*t*(by_-ay):=a0k oM oM;have s4:IntKind.i64.wrap (2*(t:Int)*(bx-ax)+N)=2*t*(bx-ax)+N:=a0k oM oM;have s5:IntKind.i64.wrap (2*(t:Int)*(by_-ay)+N)=2*t*(by_-ay)+N:=a0k oM oM;have s6:IntKind.i64.wrap (2*N)=2*N:=a0k oM oM;clear hprod hat;generalize (2*t*(bx-ax)+N) / (2*N)=qx at *;generalize (2*t*(by_-ay)+N) / (2*N)=qy at *;have s7:IntKind.i64.wrap (ax+qx)=ax+qx:=a0k oM oM;have s8:IntKind.i64.wrap (ay+qy)=ay+qy:=a0k oM oM;replace hsucc:=Lib.hid hsucc;obtain⟨l,hl⟩:=zE (b7n (λk:Nat=>a2p (ax,ay) (bx,by_) k) t);have hll:l.length=t:=by rw[<-hl];exact a2s _ _
    rw[hl]at hM;go_wp2_with fail;refine Go.wp_region_rel 35 zM zM (λ_ W=>LN w B2 B3 W0.heap.size ax ay bx by_ u6 l W) (λw w'=>w.grownBy w' none) (FLine B2 B3 u6 t N ax ay bx by_ qx qy) (λ_ _ _ _ h g=>h.kept g) (hM.grown (b2g _)) ?_ ?_
    ·clear hM hl hll hsucc
     intro i o hi ho c bb W hc hM hA hD K hK;match i,hi,ho with
     |0,_,ho =>
      cases ho;have f6:=a0a (v:=u6) (hA.at_ (k:=6) zM);go_simp;exact hK (u6) W rfl (a0p _) hM
     |1,_,ho =>
      cases ho;have f2:=a0a (v:= .pointer (some ⟨B2,0,none⟩)) (hA.at_ (k:=2) zM);go_simp;exact hK (.pointer (some ⟨B2,0,none⟩)) W rfl (a0p _) hM
     |2,_,ho =>
      cases ho;have f31:=a0a (v:= .pointer (some ⟨B2,0,none⟩)) (a0c hD 1 31 zM rfl rfl);have z0:W.cell? ⟨B2,0,none⟩=some (.int .i64 ax):=hM.a0;go_simp;exact hK (.int .i64 ax) W rfl (a0p _) hM
     |3,_,ho =>
      cases ho;have f7:=a0a (v:= .int .i64 t) (hA.at_ (k:=7) zM);go_simp;exact hK (.int .i64 t) W rfl (a0p _) hM
     |4,_,ho =>
      cases ho;have f33:=a0a (v:= .int .i64 t) (a0c hD 3 33 zM rfl rfl);go_simp;exact hK (.int .i64 (2*t)) W rfl (a0p _) hM
     |5,_,ho =>
      cases ho;have f3:=a0a (v:= .pointer (some ⟨B3,0,none⟩)) (hA.at_ (k:=3) zM);go_simp;exact hK (.pointer (some ⟨B3,0,none⟩)) W rfl (a0p _) hM
     |6,_,ho =>
      cases ho;have f35:=a0a (v:= .pointer (some ⟨B3,0,none⟩)) (a0c hD 5 35 zM rfl rfl);have z0:W.cell? ⟨B3,0,none⟩=some (.int .i64 bx):=hM.b0;go_simp;exact hK (.int .i64 bx) W rfl (a0p _) hM
     |7,_,ho =>
      cases ho;have f2:=a0a (v:= .pointer (some ⟨B2,0,none⟩)) (hA.at_ (k:=2) zM);go_simp;exact hK (.pointer (some ⟨B2,0,none⟩)) W rfl (a0p _) hM
     |8,_,ho =>
      cases ho;have f37:=a0a (v:= .pointer (some ⟨B2,0,none⟩)) (a0c hD 7 37 zM rfl rfl);have z0:W.cell? ⟨B2,0,none⟩=some (.int .i64 ax):=hM.a0;go_simp;exact hK (.int .i64 ax) W rfl (a0p _) hM
     |9,_,ho =>
      cases ho;have f36:=a0a (v:= .int .i64 bx) (a0c hD 6 36 zM rfl rfl);have f38:=a0a (v:= .int .i64 ax) (a0c hD 8 38 zM rfl rfl);go_simp;exact hK (.int .i64 (bx-ax)) W rfl (a0p _) hM
     |10,_,ho =>
      cases ho;have f34:=a0a (v:= .int .i64 (2*t)) (a0c hD 4 34 zM rfl rfl);have f39:=a0a (v:= .int .i64 (bx-ax)) (a0c hD 9 39 zM rfl rfl);go_simp;exact hK (.int .i64 ((2*t)*(bx-ax))) W rfl (a0p _) hM
     |11,_,ho =>
      cases ho;have f5:=a0a (v:= .int .i64 N) (hA.at_ (k:=5) zM);go_simp;exact hK (.int .i64 N) W rfl (a0p _) hM
     |12,_,ho =>
      cases ho;have f40:=a0a (v:= .int .i64 ((2*t)*(bx-ax))) (a0c hD 10 40 zM rfl rfl);have f41:=a0a (v:= .int .i64 N) (a0c hD 11 41 zM rfl rfl);go_simp;exact hK (.int .i64 (((2*t)*(bx-ax))+N)) W rfl (a0p _) hM
     |13,_,ho =>
      cases ho;have f5:=a0a (v:= .int .i64 N) (hA.at_ (k:=5) zM);go_simp;exact hK (.int .i64 N) W rfl (a0p _) hM
     |14,_,ho =>
      cases ho;have f43:=a0a (v:= .int .i64 N) (a0c hD 13 43 zM rfl rfl);go_simp;exact hK (.int .i64 (2*N)) W rfl (a0p _) hM
     |15,_,ho =>
      cases ho;have f42:=a0a (v:= .int .i64 (((2*t)*(bx-ax))+N)) (a0c hD 12 42 zM rfl rfl);have f44:=a0a (v:= .int .i64 (2*N)) (a0c hD 14 44 zM rfl rfl);go_simp;refine(hfx W).mono ?_;rintro e W'⟨rfl,rfl⟩;go_simp;exact hK (.int .i64 qx) W rfl (a0p _) hM
     |16,_,ho =>
      cases ho;have f32:=a0a (v:= .int .i64 ax) (a0c hD 2 32 zM rfl rfl);have f45:=a0a (v:= .int .i64 qx) (a0c hD 15 45 zM rfl rfl);go_simp;exact hK (.int .i64 (ax+qx)) W rfl (a0p _) hM
     |17,_,ho =>
      cases ho;have f2:=a0a (v:= .pointer (some ⟨B2,0,none⟩)) (hA.at_ (k:=2) zM);go_simp;exact hK (.pointer (some ⟨B2,1,none⟩)) W rfl (a0p _) hM
     |18,_,ho =>
      cases ho;have f47:=a0a (v:= .pointer (some ⟨B2,1,none⟩)) (a0c hD 17 47 zM rfl rfl);have z0:W.cell? ⟨B2,1,none⟩=some (.int .i64 ay):=hM.a1;go_simp;exact hK (.int .i64 ay) W rfl (a0p _) hM
     |19,_,ho =>
      cases ho;have f7:=a0a (v:= .int .i64 t) (hA.at_ (k:=7) zM);go_simp;exact hK (.int .i64 t) W rfl (a0p _) hM
     |20,_,ho =>
      cases ho;have f49:=a0a (v:= .int .i64 t) (a0c hD 19 49 zM rfl rfl);go_simp;exact hK (.int .i64 (2*t)) W rfl (a0p _) hM
     |21,_,ho =>
      cases ho;have f3:=a0a (v:= .pointer (some ⟨B3,0,none⟩)) (hA.at_ (k:=3) zM);go_simp;exact hK (.pointer (some ⟨B3,1,none⟩)) W rfl (a0p _) hM
     |22,_,ho =>
      cases ho;have f51:=a0a (v:= .pointer (some ⟨B3,1,none⟩)) (a0c hD 21 51 zM rfl rfl);have z0:W.cell? ⟨B3,1,none⟩=some (.int .i64 by_):=hM.b1;go_simp;exact hK (.int .i64 by_) W rfl (a0p _) hM
     |23,_,ho =>
      cases ho;have f2:=a0a (v:= .pointer (some ⟨B2,0,none⟩)) (hA.at_ (k:=2) zM);go_simp;exact hK (.pointer (some ⟨B2,1,none⟩)) W rfl (a0p _) hM
     |24,_,ho =>
      cases ho;have f53:=a0a (v:= .pointer (some ⟨B2,1,none⟩)) (a0c hD 23 53 zM rfl rfl);have z0:W.cell? ⟨B2,1,none⟩=some (.int .i64 ay):=hM.a1;go_simp;exact hK (.int .i64 ay) W rfl (a0p _) hM
     |25,_,ho =>
      cases ho;have f52:=a0a (v:= .int .i64 by_) (a0c hD 22 52 zM rfl rfl);have f54:=a0a (v:= .int .i64 ay) (a0c hD 24 54 zM rfl rfl);go_simp;exact hK (.int .i64 (by_-ay)) W rfl (a0p _) hM
     |26,_,ho =>
      cases ho;have f50:=a0a (v:= .int .i64 (2*t)) (a0c hD 20 50 zM rfl rfl);have f55:=a0a (v:= .int .i64 (by_-ay)) (a0c hD 25 55 zM rfl rfl);go_simp;exact hK (.int .i64 ((2*t)*(by_-ay))) W rfl (a0p _) hM
     |27,_,ho =>
      cases ho;have f5:=a0a (v:= .int .i64 N) (hA.at_ (k:=5) zM);go_simp;exact hK (.int .i64 N) W rfl (a0p _) hM
     |28,_,ho =>
      cases ho;have f56:=a0a (v:= .int .i64 ((2*t)*(by_-ay))) (a0c hD 26 56 zM rfl rfl);have f57:=a0a (v:= .int .i64 N) (a0c hD 27 57 zM rfl rfl);go_simp;exact hK (.int .i64 (((2*t)*(by_-ay))+N)) W rfl (a0p _) hM
     |29,_,ho =>
      cases ho;have f5:=a0a (v:= .int .i64 N) (hA.at_ (k:=5) zM);go_simp;exact hK (.int .i64 N) W rfl (a0p _) hM
     |30,_,ho =>
      cases ho;have f59:=a0a (v:= .int .i64 N) (a0c hD 29 59 zM rfl rfl);go_simp;exact hK (.int .i64 (2*N)) W rfl (a0p _) hM
     |31,_,ho =>
      cases ho;have f58:=a0a (v:= .int .i64 (((2*t)*(by_-ay))+N)) (a0c hD 28 58 zM rfl rfl);have f60:=a0a (v:= .int .i64 (2*N)) (a0c hD 30 60 zM rfl rfl);go_simp;refine(hfy W).mono ?_;rintro e W'⟨rfl,rfl⟩;go_simp;exact hK (.int .i64 qy) W rfl (a0p _) hM
     |32,_,ho =>
      cases ho;have f48:=a0a (v:= .int .i64 ay) (a0c hD 18 48 zM rfl rfl);have f61:=a0a (v:= .int .i64 qy) (a0c hD 31 61 zM rfl rfl);go_simp;exact hK (.int .i64 (ay+qy)) W rfl (a0p _) hM
     |33,_,ho =>
      cases ho;have f46:=a0a (v:= .int .i64 (ax+qx)) (a0c hD 16 46 zM rfl rfl);have f62:=a0a (v:= .int .i64 (ay+qy)) (a0c hD 32 62 zM rfl rfl);go_simp;exact hK (.agg #[.int .i64 (ax+qx),.int .i64 (ay+qy)]) W rfl (a0p _) hM
     |34,_,ho =>
      cases ho;have f63:=a0a (v:= .agg #[.int .i64 (ax+qx),.int .i64 (ay+qy)]) (a0c hD 33 63 zM rfl rfl);go_simp;exact hK (.slice (some ⟨W.heap.size,0,none⟩) 1 1) _ ⟨_,rfl,Blk.new _ _ _⟩ (World.grownBy_alloc W _ none) (hM.alloc _)
     |i+35,hi,_=>exact absurd hi oM
    ·intro bb W hM hA hall
     obtain⟨P,hP34,kP⟩:=(show ∃L,bb.eval (.tmp 64)= .slice (some ⟨L,0,none⟩) 1 1/\Blk W L #[.int .i64 (ax+qx),.int .i64 (ay+qy)] 26 from hall 34 oM _ _ rfl rfl);have hP0:bb.eval (.tmp 30)=u6:=hall 0 oM _ _ rfl rfl;have hfr:=hA.frame (rT 30 (rF 35 (rT 2 ([])))) _ rfl zM;clear hall hA;obtain⟨f,hf⟩:∃f:Nat->Value,(λk=>bb.tmps.getD k undef)=f:=⟨_,rfl⟩;have g30:f 30=u6:=by rw[<-hf,<-hP0];rfl
     have g64:f 64= .slice (some ⟨P,0,none⟩) 1 1:=by rw[<-hf,<-hP34];rfl
     rw[hf]at hfr;clear hf hP0 hP34;subst hfr;simp only[rT,rF,a1z,g30,g64,Nat.reduceAdd];clear g30 g64;simp only[zU];have hrow:=hM.row;have hle:=hM.lb;go_wp2_with (first|(at_builtin;refine wpList_append_lies _ qM _ _ _ qM W0.heap.size 26 i0 _ 2 16 Tryz.underlying147 hi0 hz0 hz1 hz2 qM oM u6 l.length _ qM hrow ⟨P,0,none⟩ 1 1 (a5u (ax+qx,ay+qy)) qM qM (d7k kP) (by simp[Value.oneCell']) oM oK oM hle _ rfl ?_;intro g cap W2 hown hgrow hat hltg)|fail);go_roundw
     case rel=>exact⟨t+1,oM,by go_num,by rw[hsucc.out,hl];have h9:=hM.appended hgrow hown;rw[hll]at h9;exact h9⟩
     case measure=>simp[intOf];omega
   ·have htN:t=(N+1).toNat:=oM
    subst htN;have hrow:=hM.row;rw[a2s]at hrow;have hB:=hM.below;have hlw:=hM.lw;clear hM;go_wp2_with fail;go_ret;unfold a7f;rw[hNe,a2s];exact⟨_,rfl,W0.heap.size,(by first|exact hlw|exact hB2.out▸hlw),hrow,(by first|exact hB|exact hB2.out▸hB)⟩
end Go.Proofs.YtfocdbjceedagaaGreatDoor
namespace Go.Proofs.YtfocdbjceedagaaGreatDoor
open Go.RowKit Go.Shelf
attribute [local go_sem] Oper.semAt_some
attribute [local go_sem ↓] Go.wp_at_zero Go.wp_at_succ
section
variable {w W W':World}{B2 B3 base:Nat}{ax ay bx by_:Int}{lv:Value}{l:List a0m}
end
end Go.Proofs.YtfocdbjceedagaaGreatDoor
namespace Go.Proofs.YtfocdbjceedagaaGreatDoor
open Tryz
section
open Go.RowKit Go.Shelf Go.Deep
variable{a:Act}{ops:Array Oper}{Q:Exit->Act->World->Prop}{o:Oper}{w:World}
theorem a3u (l:List Dt):(l.flatMap a2c).length=l.length*4:=by
 induction l with
 |nil=>rfl
 |cons e l ih=>simp at ih ⊢;omega
theorem b3i (l:List Dt):∀u∈l.flatMap a2c,u.oneCell'=true:=by
 intro u hu;obtain⟨e,he,h⟩:=List.mem_flatMap.1 hu;simp at h;rcases h with rfl|rfl|rfl|rfl <;> rfl
theorem Dts.news {n₀:Nat}{W:World}{sv:Value}{l:List Dt}(h:Dts n₀ W sv l)(hne:l≠[]):∃b off cap,sv= .slice (some ⟨b,off,none⟩) l.length cap/\b<n₀/\∀j u,(l.flatMap a2c)[j]? =some u->W.cell? ((⟨b,off,none⟩:Addr).add j)=some u:=by
 rcases h with⟨-,rfl⟩|⟨b,off,cap,rfl,hb,hl,-,hc⟩
 ·exact absurd rfl hne
 ·refine⟨b,off,cap,rfl,hb,λj u hj=> ?_⟩
  rw[Go.WideShapes.add_plain];obtain⟨hlt,-⟩:=List.getElem?_eq_some_iff.1 hj;rw[a3u]at hlt;obtain⟨q,r,hr,rfl⟩:∃q r,r<4/\j=q*4+r:=⟨j / 4,j % 4,Nat.mod_lt _ jM,oM⟩;obtain⟨f0,f1,f2,f3⟩:=d5u l q oM;obtain⟨c0,c1,c2,c3⟩:=hc q oM;match r,hr,hj with
  |0,_,hj=>exact c0.trans (f0.symm.trans hj)
  |1,_,hj=>exact c1.trans (f1.symm.trans hj)
  |2,_,hj=>exact c2.trans (f2.symm.trans hj)
  |3,_,hj=>exact c3.trans (f3.symm.trans hj)
theorem c0o (W:World)(base Z:Nat)(xv:Value)(l:List Dt)(ty:TypeId)(hZ:W.ownsRow base 54 4 (.slice (some ⟨Z,0,none⟩) 0 0) 0 [])(hx:Dts W.heap.size W xv l)(hl:l.length<=1000000)(hb:base<=W.heap.size):
 ∃v' W',(Builtin.append_ #[41,41] ty #[.slice (some ⟨Z,0,none⟩) 0 0,xv]).run prog W= .ok v' W'/\W'.ownsRow base 54 4 v' l.length (l.flatMap a2c)/\Below W.heap.size W W':=by
 obtain⟨i0,hi0,hz0,hz1,hz2⟩:=info_parts b1r;by_cases hne:l=[]
 ·subst hne
  have hs:Src prog i0.size 41 xv 0 [] W:=by
   rcases hx with⟨rfl,-⟩|⟨b,off,cap,rfl,-⟩
   ·exact Src.ofNil W underlying41 0
   ·exact Src.ofSlice W underlying41 _ 0 cap [] vM vM vM
  have hr:=run_append_room_src (P:=prog) W 41 41 ty 54 i0 underlying41 hi0 Z 0 0 0 xv 0 [] hs oM vM vM;exact⟨_,W,hr,hZ,zR _ _⟩
 ·obtain⟨b,off,cap,rfl,hbn,hnews⟩:=hx.news hne
  have hpos:0<l.length:=List.length_pos_iff.2 hne;obtain⟨v',W',hr,hown,-,-,-⟩:=run_append_own_at (P:=prog) W base 41 ty 54 i0 _ 4 32 underlying41 hi0 hz0 hz1 hz2 rfl oM _ 0 [] hZ ⟨b,off,none⟩ l.length cap (l.flatMap a2c) (a3u l) hnews (b3i l) oK oM hb;have hs:Src prog i0.size 41 (.slice (some ⟨b,off,none⟩) l.length cap) l.length (l.flatMap a2c) W:=Src.ofSlice W underlying41 _ _ cap _ (by rw[hz1];exact a3u l) hnews (b3i l);have hold:(Builtin.firstCells i0.size 0 (.slice (some ⟨Z,0,none⟩) 0 0)).run prog W.drew= .ok (([]:List Value).toArray) W.drew:=run_firstCells_some W.drew i0.size 0 ⟨Z,0,none⟩ 0 0 [] vM vM;have hcap:Builtin.nextslicecap (0+l.length) 0*i0.bytes<=281474976710656:=growslice_fits oM (by rw[hz2];omega);have hr2:=run_append_grow_src (P:=prog) W 41 41 ty 54 i0 _ underlying41 hi0 hz0 (some ⟨Z,0,none⟩) 0 0 [] hold _ l.length _ hs oM oM hcap;rw[hr2]at hr;injection hr with h1 h2;subst h1 h2;refine⟨_,_,hr2,?_,(zR _ W).drew.alloc (yR _) _⟩;simpa using hown
theorem a3l {ops:Array Oper}{K:Act->World->Prop}{Q:Exit->Act->World->Prop}{E:Prop}(hgd:o.guard=none)(s x:Operand)
 (ho:o.op= .call { callee:= .builtin .append,args:= #[s,x],argTypes:= #[41,41] })
 (base Z:Nat) (hs:a.eval s= .slice (some ⟨Z,0,none⟩) 0 0) (hZ:w.ownsRow base 54 4 (.slice (some ⟨Z,0,none⟩) 0 0) 0 []) (xv:Value) (l:List Dt) (hxv:a.eval x=xv) (hx:Dts w.heap.size w xv l) (hl:l.length<=1000000) (hb:base<=w.heap.size)
 (h:∀v' w',w'.ownsRow base 54 4 v' l.length (l.flatMap a2c)->Below w.heap.size w w'->K (a.put o.dst v') w') :
 if Region.wanted o (yielded ops a.tmps)=true then Oper.wp prog o a w K Q else E:=by
 have hw:Region.wanted o (yielded ops a.tmps)=true:=by simp[Region.wanted,hgd]
 rw[if_pos hw];obtain⟨v',w',hr,h2,h3⟩:=c0o w base Z xv l o.type hZ hx hl hb;unfold Oper.wp execOp;simp only[ho,resolve,invoke,builtin,Sem.run_bind,Sem.run_pure,Result.andThen_ok,List.map_toArray,List.map_cons,List.map_nil,hs,hxv,hr];exact h v' w' h2 h3
theorem a5t {ops:Array Oper}{K:Act->World->Prop}{Q:Exit->Act->World->Prop}{E:Prop}(hgd:o.guard=none)(s x:Operand)
 (ho:o.op= .call { callee:= .builtin .append,args:= #[s,x],argTypes:= #[41,41] })
 (base:Nat) (v:Value) (l1 l2:List Dt) (hs:a.eval s=v) (hv:w.ownsRow base 54 4 v l1.length (l1.flatMap a2c)) (b off m c:Nat) (hx:a.eval x= .slice (some ⟨b,off,none⟩) m c) (hD:Dts w.heap.size w (.slice (some ⟨b,off,none⟩) m c) l2)
 (hl:l1.length+l2.length<=1000000) (hb:base<=w.heap.size)
 (h:∀v' w',w'.ownsRow base 54 4 v' (l1++l2).length ((l1++l2).flatMap a2c)->w.grownBy w' v.ownBlock->K (a.put o.dst v') w') :
 if Region.wanted o (yielded ops a.tmps)=true then Oper.wp prog o a w K Q else E:=by
 have hw:Region.wanted o (yielded ops a.tmps)=true:=by simp[Region.wanted,hgd]
 rw[if_pos hw];obtain⟨i0,hi0,hz0,hz1,hz2⟩:=info_parts b1r;have hm:m=l2.length/\∀j u,(l2.flatMap a2c)[j]? =some u->w.cell? ((⟨b,off,none⟩:Addr).add j)=some u:=by
  by_cases hne:l2=[]
  ·subst hne
   rcases hD with⟨h1,-⟩|⟨b',off',cap',h1,-⟩
   ·simp at h1
   ·simp only[Value.slice.injEq]at h1
    exact⟨h1.2.1,by simp⟩
  ·obtain⟨b',off',cap',h1,-,h2⟩:=hD.news hne
   simp only[Value.slice.injEq,Option.some.injEq,Addr.mk.injEq,and_true]at h1;obtain⟨⟨rfl,rfl⟩,rfl,-⟩:=h1;exact⟨rfl,h2⟩
 obtain⟨rfl,hnews⟩:=hm;obtain⟨v',w',hr,hown,hgr,-,-⟩:=run_append_own_at (P:=prog) w base 41 o.type 54 i0 _ 4 32 underlying41 hi0 hz0 hz1 hz2 rfl oM v l1.length (l1.flatMap a2c) hv ⟨b,off,none⟩ l2.length c (l2.flatMap a2c) (a3u l2) hnews (b3i l2) oK oM hb;unfold Oper.wp execOp;simp only[ho,resolve,invoke,builtin,Sem.run_bind,Sem.run_pure,Result.andThen_ok,List.map_toArray,List.map_cons,List.map_nil,hs,hx,hr];exact h v' w' (by rw[List.length_append,List.flatMap_append];exact hown) hgr
end
section
open Go.RowKit Go.Shelf
variable{l:List Dt}{k:Nat}
theorem b3j {W W':World}(h:W.grownBy W' none)(r:Option Nat):W.grownBy W' r:=⟨h.os,h.tape,h.output,h.size,λk hk _=>h.block k hk vM⟩
theorem b5k (x:Dt)(l2:List Dt):∀(l1:List Dt),(∀d∈l1,ltS (d.x,d.y) (x.x,x.y)=true)->a6k (l1++l2) x=l1++a6k l2 x
 |[],_=>rfl
 |d::l1,h=>by
  rw[List.cons_append,a6k,if_pos (h d List.mem_cons_self),b5k x l2 l1 (λe he=>h e (List.mem_cons_of_mem _ he)),List.cons_append]
theorem c3u {x:Dt}(hk:k<=l.length)(hlt:∀j,(h:j<k)->ltS ((l[j]'(by omega)).x,(l[j]'(by omega)).y) (x.x,x.y)=true):a6k l x=l.take k++a6k (l.drop k) x:=by
 have h:=b5k x (l.drop k) (l.take k) (λd hd=>by
  obtain⟨j,hj,rfl⟩:=List.getElem_of_mem hd;rw[List.getElem_take];exact hlt j (by simp at hj;omega))
 rwa [List.take_append_drop]at h
theorem d4p {x:Dt}(hlt:∀j,(h:j<l.length)->ltS ((l[j]).x,(l[j]).y) (x.x,x.y)=true):a6k l x=l++[x]:=by
 have h:=c3u (l:=l) (x:=x) (k:=l.length) (yR _) hlt;rw[h];simp[a6k]
theorem d7l {x:Dt}(hk:k<l.length)(hlt:∀j,(h:j<k)->ltS ((l[j]'(by omega)).x,(l[j]'(by omega)).y) (x.x,x.y)=true)(hge:ltS (l[k].x,l[k].y) (x.x,x.y)=false)(hne:¬(l[k].x=x.x/\l[k].y=x.y)):
 a6k l x=l.take k++x::l.drop k:=by
 rw[c3u (Nat.le_of_lt hk) hlt,List.drop_eq_getElem_cons hk,a6k,if_neg (by rw[hge];decide),if_neg (λe=>hne (by simpa using e))]
theorem d0u {x:Dt}(hk:k<l.length)(hlt:∀j,(h:j<k)->ltS ((l[j]'(by omega)).x,(l[j]'(by omega)).y) (x.x,x.y)=true)(hx:l[k].x=x.x)(hy:l[k].y=x.y):
 a6k l x=if x.i<l[k].i then l.set k ⟨x.x,x.y,l[k].k,x.i⟩else l:=by
 rw[c3u (Nat.le_of_lt hk) hlt,List.drop_eq_getElem_cons hk,a6k,if_neg (by rw[hx,hy,a3z];decide),if_pos (by rw[hx,hy])];split
 ·rw[List.set_eq_take_append_cons_drop,if_pos hk,hx,hy]
 ·rw[<-List.drop_eq_getElem_cons hk,List.take_append_drop]
theorem d7m (a b c d:Int):ltS (a,b) (c,d)=(decide (b<d)||(decide (b=d)&&decide (a<c))):=by
 unfold ltS;simp
theorem d4q (l:List Dt)(k:Nat)(v:Int)(h:k<l.length):(l.flatMap a2c).set (k*4+3) (.int .i64 v)=(l.set k ⟨l[k].x,l[k].y,l[k].k,v⟩).flatMap a2c:=by
 induction l generalizing k with
 |nil=>simp at h
 |cons d l ih =>
  match k,h with
  |0,_=>simp
  |k+1,h =>
   have ih:=ih k (by simpa using h);have e:(k+1)*4+3=(a2c d).length+(k*4+3):=by simp;omega
   rw[List.flatMap_cons,e,List.set_append,if_neg oM,Nat.add_sub_cancel_left,ih];simp
end
section
open Go.RowKit Go.Shelf Go.Maps
attribute [local go_sem] Oper.semAt_some
attribute [local go_sem ↓] Go.wp_at_zero Go.wp_at_succ
theorem c3v (ps:List a0m)(k:Nat)(h:k<ps.length):a4b (ps.take (k+1))=(a4b (ps.take k)&&a1f ps[k].1 ps[k].2):=by
 unfold a4b;rw[List.take_add_one,List.getElem?_eq_getElem h,List.all_append];simp
theorem c7d {ps:List a0m}(h:a4b ps=true)(k:Nat)(hk:k<ps.length):a1f ps[k].1 ps[k].2=true:=List.all_eq_true.1 h _ (List.getElem_mem hk)
end
section
open Go.RowKit Go.Shelf Go.Deep
attribute [local go_sem] Oper.semAt_some
attribute [local go_sem ↓] Go.wp_at_zero Go.wp_at_succ
variable{l l8:List Dt}{base cap g:Nat}{v:Value}{W X wr:World}
theorem b3k {B:Nat}{a b c d:Int}{t:TypeId}(h:Blk W B #[.int .i64 a,.int .i64 b,.int .i64 c,.int .i64 d] t):W.cell? ⟨B,0,none⟩=some (.int .i64 a)/\W.cell? ⟨B,1,none⟩=some (.int .i64 b)/\W.cell? ⟨B,2,none⟩=some (.int .i64 c)/\W.cell? ⟨B,3,none⟩=some (.int .i64 d) :=
 ⟨h.cell 0,h.cell 1,h.cell 2,h.cell 3⟩
theorem a5p {Z:Nat}(h:Blk X Z #[] 54)(hb:base<=Z):X.ownsRow base 54 4 (.slice (some ⟨Z,0,none⟩) 0 0) 0 [] :=
 ⟨rfl,.inr ⟨Z,0,#[],rfl,hb,h,yR _,Nat.zero_le _,rfl,rfl⟩⟩
theorem Lead.succ {x:Dt}{k:Nat}(h:Lead l x k)(hk:k<l.length)(hlt:ltS (l[k].x,l[k].y) (x.x,x.y)=true):Lead l x (k+1) :=
 ⟨hk,λj hj=>by
  by_cases he:j=k
  ·subst he;exact hlt
  ·exact h.lt j oM⟩
theorem a8z {P:Nat}{x y k i:Int}(h:Blk X P #[.int .i64 x,.int .i64 y,.int .i64 k,.int .i64 i] 54):∀j u,(a2c ⟨x,y,k,i⟩)[j]? =some u->X.cell? ((⟨P,0,none⟩:Addr).add j)=some u:=λj u hj=>by
 rw[Go.WideShapes.add_plain,Nat.zero_add];match j,hj with
 |0,hj=>exact(h.cell 0).trans hj
 |1,hj=>exact(h.cell 1).trans hj
 |2,hj=>exact(h.cell 2).trans hj
 |3,hj=>exact(h.cell 3).trans hj
 |j+4,hj=>simp at hj
theorem b3l {ops:Array Oper}{o:Oper}{a:Act}{w:World}{K:Act->World->Prop}{Q:Exit->Act->World->Prop}{E:Prop}(hgd:o.guard=none)(s x:Operand)
 (ho:o.op= .call { callee:= .builtin .append,args:= #[s,x],argTypes:= #[41,41] })
 (b n cap:Nat) (hs:a.eval s= .slice (some ⟨b,0,none⟩) n cap) (hx:a.eval x= .slice none 0 0) (hn:n<=cap)
 (h:K (a.put o.dst (.slice (some ⟨b,0,none⟩) n cap)) w) :
 if Region.wanted o (yielded ops a.tmps)=true then Oper.wp prog o a w K Q else E:=by
 have hw:Region.wanted o (yielded ops a.tmps)=true:=by simp[Region.wanted,hgd]
 rw[if_pos hw];obtain⟨i0,hi0,hz0,hz1,hz2⟩:=info_parts b1r;have hr:=run_append_room_src (P:=prog) w 41 41 o.type 54 i0 underlying41 hi0 b 0 n cap (.slice none 0 0) 0 [] (Src.ofNil w underlying41 0) oM vM vM;unfold Oper.wp execOp;simp only[ho,resolve,invoke,builtin,Sem.run_bind,Sem.run_pure,Result.andThen_ok,List.map_toArray,List.map_cons,List.map_nil,hs,hx,hr];exact h
theorem d7n {n:Nat}{xs:List Value}(h:W.ownsRow base 54 4 (.slice (some ⟨g,0,none⟩) n cap) n xs):n<=cap:=by
 rcases h.2 with⟨h,-⟩|⟨g',c,cur,h,-,-,hc,-⟩
 ·cases h
 ·simp only[Value.slice.injEq]at h
  obtain⟨-,-,rfl⟩:=h;exact hc
theorem d0v {w8:World}{v8:Value}(hb:base<=W.heap.size)(hB:Below W.heap.size W wr)(h8:w8.ownsRow wr.heap.size 54 4 v8 l8.length (l8.flatMap a2c))(hB8:Below wr.heap.size wr w8)(he:l=l8):
 ∃v',(Ending.returned v8:Ending)= .returned v'/\w8.ownsRow base 54 4 v' l.length (l.flatMap a2c)/\W.grownBy w8 v.ownBlock:=by
 subst he;refine⟨v8,rfl,h8.mono (Nat.le_trans hb hB.size),b3j (a0s (hB.trans (hB8.mono hB.size))) _⟩
theorem d7o (h:W.ownsRow base 54 4 (.slice (some ⟨g,0,none⟩) l.length cap) l.length (l.flatMap a2c))(k:Nat)(hk:k<l.length)(id:Int):
 (W.setCell ⟨g,k*4+3,none⟩ (.int .i64 id)).ownsRow base 54 4 (.slice (some ⟨g,0,none⟩) l.length cap) (l.set k ⟨l[k].x,l[k].y,l[k].k,id⟩).length ((l.set k ⟨l[k].x,l[k].y,l[k].k,id⟩).flatMap a2c):=by
 obtain⟨h1,h2⟩:=h;rcases h2 with⟨h2,-⟩|⟨g',cap',cur,he,hg,hb,hc,hm,hs,ht⟩
 ·cases h2
 ·simp only[Value.slice.injEq,Option.some.injEq,Addr.mk.injEq,true_and,and_true]at he
  obtain⟨rfl,rfl⟩:=he;have hb2:=Blk.set (B:=g) (c:=cur) (t:=54) hb (k*4+3) (.int .i64 id);rw[List.length_set];refine⟨by rw[a3u,List.length_set],.inr ⟨g,cap,_,rfl,hg,hb2,hc,hm,by simpa using hs,?_⟩⟩;rw[<-d4q l k id hk,<-ht,Array.toList_setIfInBounds,List.take_set]
theorem d4r (hB:Below W.heap.size W wr)(hrow:W.ownsRow base 54 4 (.slice (some ⟨g,0,none⟩) l.length cap) l.length (l.flatMap a2c))(k:Nat)(hk:k<l.length)(id:Int)(p:Growth)(he:l8=l.set k ⟨l[k].x,l[k].y,l[k].k,id⟩):
 ∃v',(Ending.returned (.slice (some ⟨g,0,none⟩) l.length cap):Ending)= .returned v'/\((wr.setCell ⟨g,k*4+3,none⟩ (.int .i64 id)).growBy p).ownsRow base 54 4 v' l8.length (l8.flatMap a2c)/\W.grownBy ((wr.setCell ⟨g,k*4+3,none⟩ (.int .i64 id)).growBy p) (Value.slice (some ⟨g,0,none⟩) l.length cap).ownBlock:=by
 subst he;have h1:=hrow.kept (a0s hB) (.inr (by simp[Value.ownBlock]));have h2:=d7o h1 k hk id;refine⟨_,rfl,h2.kept (a0q _ p) (.inr (by simp[Value.ownBlock])),?_⟩;refine⟨hB.os,hB.tape,hB.output,by have:=hB.size;simp;omega,λj hj hne=> ?_⟩;rw[World.heap_growBy _ _ (by have:=hB.size;simp;omega),Below.heap_setCell _ _ _ _ (λe=>hne (by simp[Value.ownBlock,e]))];exact hB.block j hj
theorem d4s (hB:Below W.heap.size W wr)(hrow:W.ownsRow base 54 4 v l.length (l.flatMap a2c))(he:l8=l):
 ∃v',(Ending.returned v:Ending)= .returned v'/\wr.ownsRow base 54 4 v' l8.length (l8.flatMap a2c)/\W.grownBy wr v.ownBlock:=by
 subst he;exact⟨v,rfl,hrow.kept (a0s hB) (by cases v.ownBlock <;> simp),b3j (a0s hB) _⟩
theorem d0w (v:Value)(l:List Dt)(x y kd id:Int)(base:Nat)(w:World)(hrow:w.ownsRow base 54 4 v l.length (l.flatMap a2c))(hb:base<=w.heap.size)(hl:l.length<=100000)(hf:∀d∈l,fits d.x/\fits d.y):
 Calls prog 94 #[v,.agg #[.int .i64 x,.int .i64 y,.int .i64 kd,.int .i64 id]] w λe w'=>∃v',e= .returned v'/\w'.ownsRow base 54 4 v' (a6k l ⟨x,y,kd,id⟩).length ((a6k l ⟨x,y,kd,id⟩).flatMap a2c)/\w.grownBy w' v.ownBlock:=by
 have hDt:=b4e hrow oM hf;obtain⟨i0,hi0,hz0,hz1,hz2⟩:=info_parts b1r;have kX0:=Blk.new w #[.int .i64 x,.int .i64 y,.int .i64 kd,.int .i64 id] 54;have hB0:Below w.heap.size w (w.alloc (.cells #[.int .i64 x,.int .i64 y,.int .i64 kd,.int .i64 id] 54)):=zC;rcases hrow.2 with⟨rfl,h0⟩|⟨g,cap,cur,rfl,hg,hblk,hcap,hcm,hcs,hct⟩
 ·obtain rfl:l=[]:=List.eq_nil_of_length_eq_zero h0
  have hput:=Lib.hid (show a6k [] ⟨x,y,kd,id⟩=[(⟨x,y,kd,id⟩:Dt)]from rfl);go_enter func94,ntmps94;go_wp2_with fail;refine wp_loop_rounds 1 ?_;rw[rounds_succ];go_wp2_with fail;first|with_reducible refine a0e zM zM ?_|with_reducible refine a0g zM zM ?_
  repeat(first|go_big_quiet_step (fail)|quiet_step (fail))
  refine wpQuiet_nil ?_;intro _ hw_;obtain⟨p,hw_⟩:=hw_;subst hw_;go_wp2_with fail;first|with_reducible refine a0e zM zM ?_|with_reducible refine a0g zM zM ?_
  repeat(first|go_big_quiet_step (fail)|quiet_step (fail))
  refine wpQuiet_nil ?_;intro _ hw_;obtain⟨p,hw_⟩:=hw_;subst hw_;go_wp2_with fail;refine a0n (λwy hwy=> ?_);have hB:Below w.heap.size w wy:=by
   rw[hwy];exact zC
  have kX:Blk wy w.heap.size #[.int .i64 x,.int .i64 y,.int .i64 kd,.int .i64 id] 54:=by
   rw[hwy];exact kX0.grow _
  clear hwy kX0 hB0;have lX:=kX.lt;obtain⟨X,hX⟩:=zE w.heap.size;rw[hX]at kX lX ⊢;replace hX:=Lib.hid hX;obtain⟨x0,x1,x2,x3⟩:=b3k kX;go_region_law
   (first
    |(refine a3l qM _ _ qM wy.heap.size _ qM (a5p ?_ ?_) (.slice none 0 0) [] qM (.inl ⟨rfl,rfl⟩) vM zC ?_;(first|exact Blk.new _ _ _|(have h:=(Blk.new (wy.alloc (.cells #[.int .i64 x,.int .i64 y,.int .i64 kd,.int .i64 id] 54)) #[] 54).drew;rw[World.size_alloc]at h;exact h)|exact((Blk.new wy #[] 54).alloc _).drew);(first|exact yR _|(simp;done)|omega);intro v6 w6 hrow6 hb6;have hb46:Below wy.heap.size wy w6:=Below.trans zC (hb6.mono zC);have hs46:=hb46.size;obtain⟨d0,d1,d2,d3⟩:=b3k (kX.below hb46 lX);replace hrow6:w6.ownsRow wy.heap.size 54 4 v6 0 []:=hrow6)
    |((first|(refine step_append_lies _ qM _ _ _ qM wy.heap.size 54 i0 _ 4 32 underlying41 hi0 hz0 hz1 hz2 rfl oM v6 0 [] qM (hrow6.alloc _) ⟨w6.heap.size,0,none⟩ 1 1 (a2c ⟨x,y,kd,id⟩) qM qM (a8z (Blk.new _ _ _)) (by simp[Value.oneCell']) oM oK oM zC _ rfl ?_)|(refine step_append_lies _ qM _ _ _ qM wy.heap.size 54 i0 _ 4 32 underlying41 hi0 hz0 hz1 hz2 rfl oM v6 0 [] qM hrow6 ⟨wy.heap.size,0,none⟩ 1 1 (a2c ⟨x,y,kd,id⟩) qM qM (a8z (((Blk.new wy #[.int .i64 x,.int .i64 y,.int .i64 kd,.int .i64 id] 54).alloc (.cells #[] 54)).drew.below hb6 (by simp;try omega))) (by simp[Value.oneCell']) oM oK oM zC _ rfl ?_)|(refine step_append_lies _ qM _ _ _ qM wy.heap.size 54 i0 _ 4 32 underlying41 hi0 hz0 hz1 hz2 rfl oM v6 0 [] qM hrow6 ⟨wy.heap.size+1,0,none⟩ 1 1 (a2c ⟨x,y,kd,id⟩) qM qM (a8z (by have h:=(Blk.new (wy.alloc (.cells #[] 54)) #[.int .i64 x,.int .i64 y,.int .i64 kd,.int .i64 id] 54).drew.below hb6 (by simp;try omega);simpa using h)) (by simp[Value.oneCell']) oM oK oM zC _ rfl ?_));intro g7 cap7 w7 hown7 hgrow7 hat7 hlt7;have hb47:Below wy.heap.size wy w7:=(by first|exact hb46.grown hgrow7 hb46.size (λr e=>(hrow6.lt r e).1)|exact(hb46.alloc hb46.size _).grown hgrow7 (Nat.le_trans hb46.size vM) (λr e=>(hrow6.lt r e).1));have hc7:1<=cap7:=d7n hown7)
    |(refine b3l qM _ _ qM g7 1 cap7 qM qM hc7 ?_))
  all_goals
   try go_simp
   go_wp2_with fail;go_ret;exact d0v (l8:=[⟨x,y,kd,id⟩]) hb hB (by simpa using hown7) hb47 hput.out
 ·have hgl:g<w.heap.size:=(Array.getElem?_eq_some_iff.1 hblk).1
  go_enter func94,ntmps94;go_wp2_with fail;obtain⟨W1,hW1⟩:=zE (w.alloc (.cells #[.int .i64 x,.int .i64 y,.int .i64 kd,.int .i64 id] 54));rw[hW1]at kX0 hB0 ⊢;clear hW1;have lX0:=kX0.lt;obtain⟨X,hX⟩:=zE w.heap.size;rw[hX]at kX0 lX0 ⊢;replace hX:=Lib.hid hX;go_loopw [5] (λi wr=>∃k:Nat,i= .int .i64 (k:Nat)/\Lead l ⟨x,y,kd,id⟩ k/\Below W1.heap.size W1 wr) (λi _=>l.length-(intOf i).toNat)
  case atStart=>exact⟨0,rfl,Lead.zero _ _,zR _ _⟩
  case round =>
   obtain⟨k,rfl,hLd,hB1⟩:=hrel;have hk:=hLd.le;have hB:Below w.heap.size w wr:=hB0.trans (hB1.mono hB0.size);have hsz:=hB1.size;have kX:=kX0.below hB1 lX0;have lX:X<wr.heap.size:=oM;obtain⟨x0,x1,x2,x3⟩:=b3k kX;have hDe:=hDt.up hB hB.size;by_cases hlt:k<l.length
   ·have hltI:(k:Int)<(l.length:Int):=oM
    obtain⟨-,a',cap',he',hrows⟩:=hDe.open_;obtain⟨b',off',hab,-,hr,-⟩:=hrows k hlt;simp only[Value.slice.injEq,true_and]at he';obtain⟨rfl,rfl⟩:=he';simp only[Option.some.injEq,Addr.mk.injEq,and_true]at hab;obtain⟨rfl,rfl⟩:=hab;obtain⟨c0,c1,c2,c3⟩:=hr;rw[Nat.zero_add]at c0 c1 c2 c3;have hsu:=hLd.succ hlt;have hin:=λh1 h2=>d7l hlt hLd.lt h1 h2
    have hsame:=λh1 h2=>d0u hlt hLd.lt h1 h2
    simp only at hsu hin hsame;clear hrows;rw[d7m]at hsu hin;obtain⟨d,hd⟩:=zE (l[k]);rw[hd]at c0 c1 c2 c3 hsu hin hsame;obtain⟨dx,dy,dk,di⟩:=d;replace hd:=Lib.hid hd;simp only at c0 c1 c2 c3 hsu hin hsame;have hkc:¬cap=k:=oM;have hkcI:(k:Int)<=(cap:Int):=oM;have hkl:(k:Int)<=(l.length:Int):=oM;have hk0:0<=(k:Int):=oM;have hrelB:∀p,Below W1.heap.size W1 (wr.growBy p):=λp=>below_growBy' hB1 hsz p
    by_cases h1:dy<y
    ·replace hsu:=Lib.hid (hsu (by simp[h1]))
     exact yco
    ·by_cases h2:y=dy
     ·subst h2
      by_cases h3:dx<x
      ·replace hsu:=Lib.hid (hsu (by simp[h3]))
       exact yco
      ·by_cases h4:x=dx
       ·subst h4
        replace hsame:=Lib.hid (hsame rfl rfl);clear hsu hin;have hfz:wr.frozen? ⟨g,k*4+3,none⟩=false:=Blk.frozen (B:=g) (c:=cur) (t:=54) ((hB.block g hgl).trans hblk) _;by_cases h5:id<di
        ·go_wp2_with fail
         first|with_reducible refine a0e zM zM ?_|with_reducible refine a0g zM zM ?_
         repeat(first|go_big_quiet_step (fail)|quiet_step (fail))
         refine wpQuiet_nil ?_;intro _ hw_;obtain⟨p,hw_⟩:=hw_;subst hw_;go_wp2_with fail;first|with_reducible refine a0e zM zM ?_|with_reducible refine a0g zM zM ?_
         repeat(first|go_big_quiet_step (fail)|quiet_step (fail))
         refine wpQuiet_nil ?_;intro _ hw_;obtain⟨p,hw_⟩:=hw_;subst hw_;go_wp2_with fail;first|with_reducible refine a0e zM zM ?_|with_reducible refine a0g zM zM ?_
         repeat(first|go_big_quiet_step (fail)|quiet_step (fail))
         refine wpQuiet_nil ?_;intro _ hw_;obtain⟨p,hw_⟩:=hw_;subst hw_;go_wp2_with fail;go_ret;exact d4r hB hrow k hlt id _ (by rw[hsame.out,if_pos h5];rw[hd.out])
        ·go_wp2_with fail
         first|with_reducible refine a0e zM zM ?_|with_reducible refine a0g zM zM ?_
         repeat(first|go_big_quiet_step (fail)|quiet_step (fail))
         refine wpQuiet_nil ?_;intro _ hw_;obtain⟨p,hw_⟩:=hw_;subst hw_;go_wp2_with fail;first|with_reducible refine a0e zM zM ?_|with_reducible refine a0g zM zM ?_
         repeat(first|go_big_quiet_step (fail)|quiet_step (fail))
         refine wpQuiet_nil ?_;intro _ hw_;obtain⟨p,hw_⟩:=hw_;subst hw_;go_wp2_with fail;first|with_reducible refine a0e zM zM ?_|with_reducible refine a0g zM zM ?_
         repeat(first|go_big_quiet_step (fail)|quiet_step (fail))
         refine wpQuiet_nil ?_;intro _ hw_;obtain⟨p,hw_⟩:=hw_;subst hw_;go_wp2_with fail;go_ret;exact d4s (below_growBy' hB hB.size _) hrow (by rw[hsame.out,if_neg oM])
       ·have h4b:(dx==x)=false:=by simpa using λe=>h4 (Eq.symm e)
        have hput:=Lib.hid (hin (by simp[h3]) (λe=>h4 e.1.symm));clear hsu hin hsame;exact yaa
     ·have h2b:(dy==y)=false:=by simpa using λe=>h2 (Eq.symm e)
      have hput:=Lib.hid (hin (by simp[h1,Ne.symm h2]) (λe=>h2 e.2.symm));clear hsu hin hsame;by_cases h4:x=dx
      ·subst h4
       exact yaa
      ·have h4b:(dx==x)=false:=by simpa using λe=>h4 (Eq.symm e)
       exact yaa
   ·have hge:¬(k:Int)<(l.length:Int):=oM
    have hkE:=Lib.hid (show k=l.length by omega);have hput:=Lib.hid (show a6k l ⟨x,y,kd,id⟩=l.take k++⟨x,y,kd,id⟩::l.drop k by
     rw[d4p (λj hj=>hLd.lt j oM),List.take_of_length_le oM,List.drop_of_length_le oM])
    have hkl:(k:Int)<=(l.length:Int):=oM;have hk0:0<=(k:Int):=oM;have hkcI:(k:Int)<=(cap:Int):=oM;by_cases hkc:k=cap
    ·subst hkc
     go_wp2_with fail;first|with_reducible refine a0e zM zM ?_|with_reducible refine a0g zM zM ?_
     repeat(first|go_big_quiet_step (fail)|quiet_step (fail))
     refine wpQuiet_nil ?_;intro _ hw_;obtain⟨p,hw_⟩:=hw_;subst hw_;go_wp2_with fail;first|with_reducible refine a0e zM zM ?_|with_reducible refine a0g zM zM ?_
     repeat(first|go_big_quiet_step (fail)|quiet_step (fail))
     refine wpQuiet_nil ?_;intro _ hw_;obtain⟨p,hw_⟩:=hw_;subst hw_;go_wp2_with fail;refine a0n (λwy hwy=> ?_);have hBy:Below wr.heap.size wr wy:=by
      rw[hwy];exact zC
     clear hwy;replace hB:=hB.trans (hBy.mono hB.size);replace kX:=kX.below hBy lX;replace lX:=kX.lt;replace hDe:=hDe.up hBy hBy.size;have hTk:=hDe.take k k hk;obtain⟨lk,hlk⟩:∃lk:List Dt,lk=l.take k++[⟨x,y,kd,id⟩]:=⟨_,rfl⟩;have hlkl:=Lib.hid (show lk.length=(l.take k).length+1 by rw[hlk,List.length_append];rfl);have hlkf:=Lib.hid (show lk.flatMap a2c=(l.take k).flatMap a2c++a2c ⟨x,y,kd,id⟩ by rw[hlk,List.flatMap_append];simp);have hlkn:lk.length<=100001:=by rw[hlkl.out,List.length_take];omega
     replace hlk:=Lib.hid hlk;clear x0 x1 x2 x3 hB1;obtain⟨x0,x1,x2,x3⟩:=b3k kX;go_region_law
      (first
       |(refine a3l qM _ _ qM wy.heap.size _ qM (a5p ?_ ?_) _ (l.take k) qM (hTk.up zC zC) (by rw[List.length_take];omega) zC ?_;(first|exact Blk.new _ _ _|(have h:=(Blk.new (wy.alloc (.cells #[.int .i64 x,.int .i64 y,.int .i64 kd,.int .i64 id] 54)) #[] 54).drew;rw[World.size_alloc]at h;exact h)|exact((Blk.new wy #[] 54).alloc _).drew);(first|exact yR _|(simp;done)|omega);intro v6 w6 hrow6 hb6;have hb46:Below wy.heap.size wy w6:=Below.trans zC (hb6.mono zC);have hs46:=hb46.size;obtain⟨d0,d1,d2,d3⟩:=b3k (kX.below hb46 lX))
       |((first|(refine step_append_lies _ qM _ _ _ qM wy.heap.size 54 i0 _ 4 32 underlying41 hi0 hz0 hz1 hz2 rfl oM v6 (l.take k).length _ qM (hrow6.alloc _) ⟨w6.heap.size,0,none⟩ 1 1 (a2c ⟨x,y,kd,id⟩) qM qM (a8z (Blk.new _ _ _)) (by simp[Value.oneCell']) oM (by unfold maxLen;rw[List.length_take];omega) (by rw[List.length_take];omega) zC _ rfl ?_)|(refine step_append_lies _ qM _ _ _ qM wy.heap.size 54 i0 _ 4 32 underlying41 hi0 hz0 hz1 hz2 rfl oM v6 (l.take k).length _ qM hrow6 ⟨wy.heap.size,0,none⟩ 1 1 (a2c ⟨x,y,kd,id⟩) qM qM (a8z (((Blk.new wy #[.int .i64 x,.int .i64 y,.int .i64 kd,.int .i64 id] 54).alloc (.cells #[] 54)).drew.below hb6 (by simp;try omega))) (by simp[Value.oneCell']) oM (by unfold maxLen;rw[List.length_take];omega) (by rw[List.length_take];omega) zC _ rfl ?_)|(refine step_append_lies _ qM _ _ _ qM wy.heap.size 54 i0 _ 4 32 underlying41 hi0 hz0 hz1 hz2 rfl oM v6 (l.take k).length _ qM hrow6 ⟨wy.heap.size+1,0,none⟩ 1 1 (a2c ⟨x,y,kd,id⟩) qM qM (a8z (by have h:=(Blk.new (wy.alloc (.cells #[] 54)) #[.int .i64 x,.int .i64 y,.int .i64 kd,.int .i64 id] 54).drew.below hb6 (by simp;try omega);simpa using h)) (by simp[Value.oneCell']) oM (by unfold maxLen;rw[List.length_take];omega) (by rw[List.length_take];omega) zC _ rfl ?_));intro g7 cap7 w7 hown7 hgrow7 hat7 hlt7;have hb47:Below wy.heap.size wy w7:=(by first|exact hb46.grown hgrow7 hb46.size (λr e=>(hrow6.lt r e).1)|exact(hb46.alloc hb46.size _).grown hgrow7 (Nat.le_trans hb46.size vM) (λr e=>(hrow6.lt r e).1));have hown7':w7.ownsRow wy.heap.size 54 4 (.slice (some ⟨g7,0,none⟩) ((l.take k).length+1) cap7) lk.length (lk.flatMap a2c):=(by rw[hlkl.out,hlkf.out];exact hown7);obtain⟨v7,hv7⟩:∃v,v=Value.slice (some ⟨g7,0,none⟩) ((l.take k).length+1) cap7:=⟨_,rfl⟩;rw[<-hv7]at hown7' ⊢;clear hv7)
       |(refine a5t qM _ _ qM wy.heap.size v7 lk (l.drop k) qM hown7' g 0 0 0 rfl ((hDe.drop k _ _ _ hk (.inr hkE.out) (by have:=hkE.out;omega)).up hb47 hb47.size) (by rw[List.length_drop];omega) hb47.size ?_;intro v8 w8 hown8 hgrow8))
     all_goals
      have hb48:=hb47.grown hgrow8 hb47.size (λr e=>(hown7'.lt r e).1);try go_simp
      exact yix
    ·replace hkc:¬cap=k:=λe=>hkc e.symm
     exact yaa
end
section
open Go.RowKit Go.Shelf
theorem Ent.fits {s:Sh}{en:List (a0m×Int)}(h:Ent s en)(hs:OkS s):∀d∈a1h 2 en,fits d.x/\fits d.y:=λd hd=>by
 have h9:=a9j hd;obtain⟨cs,rfl⟩:=h;have h8:=a6c.1 (b2h s cs [] vM _ h9);have w1:=hs.w1;have v1:=hs.h1;simp only at h8;exact⟨⟨oM,oM⟩,oM,oM⟩
theorem Ent.dots {s:Sh}{en:List (a0m×Int)}(h:Ent s en)(p:a0m)(id:Int):a1h 2 (a9a s en (p,id))=if onS s p.1 p.2 then a6k (a1h 2 en) ⟨p.1,p.2,2,id⟩else a1h 2 en:=b4n 2 s en (p,id) h.nodup
def b7l (s:Sh)(id:Int)(en:List (a0m×Int))(ps:List a0m):List (a0m×Int):=(ps.map (λp=>(p,id))).foldl (a9a s) en
theorem c7e (s:Sh)(id:Int)(en:List (a0m×Int))(ps:List a0m)(n:Nat)(h:n<ps.length):b7l s id en (ps.take (n+1))=a9a s (b7l s id en (ps.take n)) (ps[n],id):=by
 unfold b7l;rw[List.take_add_one,List.getElem?_eq_getElem h,List.map_append,List.foldl_append];rfl
theorem d0x {s:Sh}{p q:a0m}(h:∀k:Nat,k<=(a2x (a4r s p) (a4r s q)).toNat->a7h (a2p (a4r s p) (a4r s q) k))(h0:0<=a2x (a4r s p) (a4r s q)):(b3o s p q).map (·.1)=a7f (a4r s p) (a4r s q):=by
 unfold b3o a7f b7n;rw[List.map_map];refine List.map_congr_left λk hk=> ?_
 rw[List.mem_range]at hk;exact b1t (h k oM)
theorem c0p {s:Sh}{p q:a0m}(id:Int)(en:List (a0m×Int))(h:(b3o s p q).map (·.1)=a7f (a4r s p) (a4r s q)):a3e s id en (b3o s p q)=b7l s id en (a7f (a4r s p) (a4r s q)):=by
 rw[a9z,b7l,<-h,List.map_map];rfl
theorem a5h {s:Sh}(hs:OkS s){p:a0m}(h:a1f p.1 p.2=true):Near5 (a4r s p):=by
 obtain⟨⟨x0,x1⟩,y0,y1⟩:=a2i.1 h;obtain⟨s0,s1,-,-,-,-,a0,a1,b0,b1⟩:=hs;obtain⟨c0,c1⟩:=a9v (a:=p.1-s.ax) (b:=s.st) (M:=40000) oM oM oM oM;obtain⟨d0,d1⟩:=a9v (a:=p.2-s.ay) (b:=s.st) (M:=40000) oM oM oM oM;exact⟨by show -100000<=(p.1-s.ax) / s.st;omega,by show(p.1-s.ax) / s.st<=100000;omega,by show -100000<=(p.2-s.ay) / s.st;omega,by show(p.2-s.ay) / s.st<=100000;omega⟩
theorem d4t {a b:a0m}(ha:Near5 a)(hb:Near5 b)(k:Nat)(hk:k<=(a2x a b).toNat):a7h (a2p a b k):=by
 obtain⟨N0,N1⟩:=a6z ha hb;obtain⟨ax,ay⟩:=a;obtain⟨bx,by_⟩:=b;obtain⟨N,hN⟩:=zE (a2x (ax,ay) (bx,by_));rw[hN]at N0 N1 hk;obtain⟨a0,a1,a2,a3⟩:=ha;obtain⟨b0,b1,b2,b3⟩:=hb;simp only at a0 a1 a2 a3 b0 b1 b2 b3;by_cases hz:0<N
 ·rw[a9e hN hz]
  obtain⟨X0,X1⟩:=c3t (a:=2*(k:Int)) (b:=bx-ax) oM oM oM oM;obtain⟨Y0,Y1⟩:=c3t (a:=2*(k:Int)) (b:=by_-ay) oM oM oM oM;obtain⟨ox0,ox1⟩:=a9v (a:=2*(k:Int)*(bx-ax)+N) (b:=2*N) (M:=100000000000) oM oM oM oM;obtain⟨oy0,oy1⟩:=a9v (a:=2*(k:Int)*(by_-ay)+N) (b:=2*N) (M:=100000000000) oM oM oM oM;exact⟨⟨by show _<=ax+_;omega,by show ax+_<=_;omega⟩,by show _<=ay+_;omega,by show ay+_<=_;omega⟩
 ·rw[a7n hN hz]
  exact⟨⟨by show _<=ax;omega,by show ax<=_;omega⟩,by show _<=ay;omega,by show ay<=_;omega⟩
theorem d4u {s:Sh}(hs:OkS s){p q:a0m}(hp:a1f p.1 p.2=true)(hq:a1f q.1 q.2=true)(id:Int)(en:List (a0m×Int)):a3e s id en (b3o s p q)=b7l s id en (a7f (a4r s p) (a4r s q)) :=
 c0p id en (d0x (λk hk=>d4t (a5h hs hp) (a5h hs hq) k hk) (a6z (a5h hs hp) (a5h hs hq)).1)
section
variable {w W W':World}{s:Sh}{B2 base Bw:Nat}{v v':Value}{en en':List (a0m×Int)}{c:Array Value}{lv:Value}{l:List a0m}
end
end
end Go.Proofs.YtfocdbjceedagaaGreatDoor
