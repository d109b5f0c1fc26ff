/-
  Parts.
-/
import Derived.Test.YtfocdbjceedagaaGreatDoorZae
import Derived.Lib.FrozenHead2
import Derived.Lib.OthersKept
import Derived.Laws.RangeString
import Derived.Deep.WholeRow
import Derived.Laws.Rows
set_option linter.unusedVariables false
set_option linter.unusedSimpArgs false
set_option maxHeartbeats 4000000
set_option maxRecDepth 100000
namespace Go.Proofs.YtfocdbjceedagaaGreatDoor
open Tryz
section
open Go.RowKit Go.Shelf
attribute [local go_sem] Oper.semAt_some
def mx (x y:Int):Int:=if y>x then y else x
def max4 (a b c d:Int):Int:=mx (mx (mx a b) c) d
theorem run_max4 {P:Program}(ts:Array TypeId)(t:TypeId)(a b c d:Int)(w:World):(Builtin.max_ ts t #[.int .i64 a,.int .i64 b,.int .i64 c,.int .i64 d]).run P w= .ok (.int .i64 (max4 a b c d)) w:=by
 simp[Builtin.max_,Builtin.max2,max4,mx]
theorem max4_ge (a b c d:Int):a≤max4 a b c d∧b≤max4 a b c d∧c≤max4 a b c d∧d≤max4 a b c d:=by
 unfold max4 mx
 repeat' split
 all_goals omega
theorem max4_le {a b c d m:Int}(ha:a≤m)(hb:b≤m)(hc:c≤m)(hd:d≤m):max4 a b c d≤m:=by
 unfold max4 mx
 repeat' split
 all_goals omega
def lineN (a b:Spot):Int:=max4 (b.1-a.1) (-(b.1-a.1)) (b.2-a.2) (-(b.2-a.2))
def lineAt (a b:Spot)(t:Int):Spot :=
 if 0<lineN a b then
  (a.1+(2*t*(b.1-a.1)+lineN a b) / (2*lineN a b),a.2+(2*t*(b.2-a.2)+lineN a b) / (2*lineN a b))
 else a
structure Near (p:Spot):Prop where
 x0 : -40000≤p.1
 x1:p.1≤40000
 y0 : -40000≤p.2
 y1:p.2≤40000
instance (n:Int):Decidable (fits n):=inferInstanceAs (Decidable (_∧_))
instance (p:Spot):Decidable (FitS p):=inferInstanceAs (Decidable (_∧_))
def upto {α:Type}(f:Nat→α)(k:Nat):List α:=(List.range k).map f
theorem upto_succ {α:Type}(f:Nat→α)(k:Nat):upto f (k+1)=upto f k++[f k]:=by simp[upto,List.range_succ]
theorem upto_length {α:Type}(f:Nat→α)(k:Nat):(upto f k).length=k:=by simp[upto]
abbrev NSpot:={ p:Spot // FitS p }
def lineS (a b:Spot)(k:Nat):NSpot:=if h:FitS (lineAt a b k) then ⟨lineAt a b k,h⟩ else ⟨(0,0),by constructor <;> constructor <;> decide⟩
theorem lineS_val {a b:Spot}{k:Nat}(h:FitS (lineAt a b k)):(lineS a b k).1=lineAt a b k:=by unfold lineS;rw[dif_pos h]
theorem lineAt_pos {ax ay bx by_ N t:Int}(h:lineN (ax,ay) (bx,by_)=N)(h0:0<N):lineAt (ax,ay) (bx,by_) t=(ax+(2*t*(bx-ax)+N) / (2*N),ay+(2*t*(by_-ay)+N) / (2*N)):=by
 unfold lineAt
 rw[h,if_pos h0]
theorem lineAt_zero {a b:Spot}{N t:Int}(h:lineN a b=N)(h0:¬0<N):lineAt a b t=a:=by
 unfold lineAt
 rw[h,if_neg h0]
theorem step_in {t N x:Int}(t0:0≤t)(t1:t≤N)(N1:N≤4194304)(x0 : -N≤x)(x1:x≤N) : -(2*N)*4194304≤2*t*x∧2*t*x≤(2*N)*4194304:=by
 have h1:2*t*x≤2*t*N:=Int.mul_le_mul_of_nonneg_left x1 (by omega)
 have h2:2*t*(-N)≤2*t*x:=Int.mul_le_mul_of_nonneg_left x0 (by omega)
 have h3:2*t*N≤2*N*4194304:=Int.mul_le_mul (by omega) N1 (by omega) (by omega)
 have h4:2*t*(-N) = -(2*t*N):=by rw[Int.mul_neg]
 have h5 : -(2*N)*4194304 = -(2*N*4194304):=by rw[Int.neg_mul]
 omega
theorem quot_in {t N x:Int}(N0:0<N)(t0:0≤t)(t1:t≤N)(N1:N≤4194304)(x0 : -N≤x)(x1:x≤N) : -4194305≤(2*t*x+N) / (2*N)∧(2*t*x+N) / (2*N)≤4194305:=by
 obtain⟨h1,h2⟩:=step_in t0 t1 N1 x0 x1
 constructor
 ·refine Int.le_ediv_of_mul_le (by omega) ?_
  have : -4194305*(2*N) = -(2*N)*4194304-2*N:=by grind
  omega
 ·refine Int.ediv_le_of_le_mul (by omega) ?_
  have:4194305*(2*N)=(2*N)*4194304+2*N:=by grind
  omega
attribute [local go_sem] run_max4
theorem line1_in (n:Nat)(hn:1≤n)(l Ba Bb n₀:Nat)(ax ay bx by_:Int)(ha0 : -40000≤ax)(ha1:ax≤40000)(ha2 : -40000≤ay)(ha3:ay≤40000)(hb0 : -40000≤bx)(hb1:bx≤40000)(hb2 : -40000≤by_)(hb3:by_≤40000)
 (J Jx:List NSpot→World→Prop)
 (hY:∀pre (x:NSpot) W,J pre W→pre.length<(lineN (ax,ay) (bx,by_)+1).toNat→YieldAt Fence.wide (n-1) prog l #[spotV x.1] W fun e W' =>
  (e= .returned (.bool true)∧J (pre++[x]) W'∧(W'.heap[Ba]? =W.heap[Ba]?∧W'.heap[Bb]? =W.heap[Bb]?))∨(e= .returned (.bool false)∧Jx (pre++[x]) W'))
 (hJ:∀pre (A A':World),J pre A→A.grownBy A' none→J pre A')
 (W:World)
 (kA:Blk W Ba #[.int .i64 ax,.int .i64 ay] 122) (kB:Blk W Bb #[.int .i64 bx,.int .i64 by_] 122) (h0:J [] W) :
 CallsIn Fence.wide n prog 139 #[.func (.yield l) #[] #[],.pointer (some ⟨Bb,0,none⟩),.pointer (some ⟨Ba,0,none⟩)] W fun e W'=>(∃v,e= .returned v) ∧
  ((∃ys,ys=upto (lineS (ax,ay) (bx,by_)) (lineN (ax,ay) (bx,by_)+1).toNat∧J ys W')∨(∃pre,True∧Jx pre W')):=by
 have c0:W.cell? ⟨Ba,0,none⟩=some (.int .i64 ax):=kA.cell 0
 have c1:W.cell? ⟨Ba,1,none⟩=some (.int .i64 ay):=kA.cell 1
 have c2:W.cell? ⟨Bb,0,none⟩=some (.int .i64 bx):=kB.cell 0
 have c3:W.cell? ⟨Bb,1,none⟩=some (.int .i64 by_):=kB.cell 1
 obtain⟨N,hN⟩:∃N,max4 (bx-ax) (-(bx-ax)) (by_-ay) (-(by_-ay))=N:=⟨_,rfl⟩
 have hge:=max4_ge (bx-ax) (-(bx-ax)) (by_-ay) (-(by_-ay))
 have hle:=max4_le (a:=bx-ax) (b := -(bx-ax)) (c:=by_-ay) (d := -(by_-ay)) (m:=2097152) (by omega) (by omega) (by omega) (by omega)
 rw[hN] at hge hle
 obtain⟨g0,g1,g2,g3⟩:=hge
 have hNe:=Lib.hid (show lineN (ax,ay) (bx,by_)=N from hN)
 refine callsIn_of_wp func139 rfl trivial ?_ rfl
 simp only[ntmps139,List.size_toArray,List.length_cons,List.length_nil,Nat.reduceAdd,Nat.reduceSub,Array.replicate_succ,Array.replicate_zero,List.push_toArray,List.append_toArray,List.nil_append,List.cons_append]
 gi_wp2
 refine wpIn_wide.2 ?_
 first|with_reducible refine wp_region_grow2 (by kernel_rfl) (by kernel_rfl) ?_|with_reducible refine wp_region_grow (by kernel_rfl) (by kernel_rfl) ?_
 repeat (first|go_big_quiet_step (fail)|quiet_step (fail))
 refine wpQuiet_nil ?_
 intro _ hw_
 obtain⟨p,hw_⟩:=hw_
 subst hw_
 gi_wp2
 have N0:0≤N:=by omega
 obtain⟨m,hm⟩:∃m:Nat,N=m:=⟨N.toNat,by omega⟩
 have hm1:(N+1).toNat=m+1:=by omega
 replace hm:=Lib.hid hm
 replace hm1:=Lib.hid hm1
 have kA1:=kA.grow p
 have kB1:=kB.grow p
 have h1:=hJ [] W _ h0 (grownBy_growBy W p)
 generalize W.growBy p=W1 at *
 gi_loopw [28] (fun i wr=>∃k:Nat,k≤m+1∧i= .int .i64 k∧J (upto (lineS (ax,ay) (bx,by_)) k) wr∧Blk wr Ba #[.int .i64 ax,.int .i64 ay] 122∧Blk wr Bb #[.int .i64 bx,.int .i64 by_] 122)
  (fun i _=>m+1-(intOf i).toNat)
 case atStart=>exact⟨0,by omega,rfl,h1,kA1,kB1⟩
 case round =>
  obtain⟨k,hk,rfl,hJs,kA2,kB2⟩:=hrel
  have hlA:lineN (ax,ay) (bx,by_)=N:=hNe.out
  by_cases hlt:k<m+1
  ·have hltI:(k:Int)<N+1:=by have:=hm.out;omega
   have c0:wr.cell? ⟨Ba,0,none⟩=some (.int .i64 ax):=kA2.cell 0
   have c1:wr.cell? ⟨Ba,1,none⟩=some (.int .i64 ay):=kA2.cell 1
   have lA:=kA2.lt
   have lB:=kB2.lt
   by_cases hNz:0<N
   ·obtain⟨s0,s1⟩:=step_in (t:=(k:Int)) (N:=N) (x:=bx-ax) (by omega) (by omega) (by omega) (by omega) (by omega)
    obtain⟨s2,s3⟩:=step_in (t:=(k:Int)) (N:=N) (x:=by_-ay) (by omega) (by omega) (by omega) (by omega) (by omega)
    obtain⟨r0,r1⟩:=quot_in (t:=(k:Int)) (N:=N) (x:=bx-ax) hNz (by omega) (by omega) (by omega) (by omega) (by omega)
    obtain⟨r2,r3⟩:=quot_in (t:=(k:Int)) (N:=N) (x:=by_-ay) hNz (by omega) (by omega) (by omega) (by omega) (by omega)
    have s0 : -17592186044416≤2*(k:Int)*(bx-ax):=by omega
    have s1:2*(k:Int)*(bx-ax)≤17592186044416:=by omega
    have s2 : -17592186044416≤2*(k:Int)*(by_-ay):=by omega
    have s3:2*(k:Int)*(by_-ay)≤17592186044416:=by omega
    obtain⟨q1,e1⟩:∃q,(2*(k:Int)*(bx-ax)+N) / (2*N)=q:=⟨_,rfl⟩
    obtain⟨q2,e2⟩:∃q,(2*(k:Int)*(by_-ay)+N) / (2*N)=q:=⟨_,rfl⟩
    have hv:lineAt (ax,ay) (bx,by_) k=(ax+q1,ay+q2):=by rw[lineAt_pos hlA hNz,←e1,←e2]
    rw[e1] at r0 r1
    rw[e2] at r2 r3
    have hfit:FitS (lineAt (ax,ay) (bx,by_) k):=by rw[hv];exact⟨⟨by omega,by omega⟩,⟨by omega,by omega⟩⟩
    have hval:(lineS (ax,ay) (bx,by_) k).1=(ax+q1,ay+q2):=(lineS_val hfit).trans hv
    clear hfit hv
    replace e1:=Lib.hid e1
    replace e2:=Lib.hid e2
    replace hlA:=Lib.hid hlA
    gi_wp2
    refine wpIn_wide.2 ?_
    first|with_reducible refine wp_region_grow_tail2 25 (by kernel_rfl) (by kernel_rfl) ?_|with_reducible refine wp_region_grow_tail 25 (by kernel_rfl) (by kernel_rfl) ?_
    simp only[List.take_succ_cons,List.take_zero,List.drop_succ_cons,List.drop_zero]
    repeat (first|go_big_quiet_step ((go_at_call 140;exact Calls.grow_of_same (floor_eq (by first|with_reducible exact e1.out|with_reducible exact e2.out) _ (by omega) (by omega) (by omega))))|quiet_step ((go_at_call 140;exact Calls.grow_of_same (floor_eq (by first|with_reducible exact e1.out|with_reducible exact e2.out) _ (by omega) (by omega) (by omega)))))
    refine wpQuiet_nil ?_
    intro _ hw_
    obtain⟨p,hw_⟩:=hw_
    subst hw_
    go_wp2_with fail
    have hB3:RowKit.Below wr.heap.size wr ((wr.alloc (.cells #[.int .i64 (ax+q1),.int .i64 (ay+q2)] 122)).growBy p):=(by repeat' (first|with_reducible (first|exact zR _ _|exact yR _|assumption|refine zG ?_ ?_ _|refine zA ?_ ?_ _|refine zS ?_ ?_ _|refine zD ?_|refine yA ?_|refine yG ?_|refine yS ?_|refine yD ?_)|omega|(dsimp only;omega)))
    have bX:=(Blk.new wr #[.int .i64 (ax+q1),.int .i64 (ay+q2)] 122).grow p
    obtain⟨W3,hW3⟩:∃W3,(wr.alloc (.cells #[.int .i64 (ax+q1),.int .i64 (ay+q2)] 122)).growBy p=W3:=⟨_,rfl⟩
    rw[hW3] at hB3 bX ⊢
    clear hW3
    have hJ3:=hJ _ wr W3 hJs (grownBy_of_below hB3)
    have kA3:=kA2.below hB3 lA
    have kB3:=kB2.below hB3 lB
    have x0:W3.cell? ⟨wr.heap.size,0,none⟩=some (.int .i64 (ax+q1)):=bX.cell 0
    have x1:W3.cell? ⟨wr.heap.size,1,none⟩=some (.int .i64 (ay+q2)):=bX.cell 1
    obtain⟨fn,tmps,assign,body,hy,hR⟩:=hY _ (lineS (ax,ay) (bx,by_) k) W3 hJ3 (by rw[upto_length,hNe.out,hm1.out];exact hlt)
    rw[hval] at hy
    clear s0 s1 s2 s3 r0 r1 r2 r3 c0 c1 hB3 bX
    generalize wr.heap.size=Bx at *
    gi_wp2
    refine hR.mono ?_
    rintro e W4 (⟨rfl,hJ4,e5,e6⟩|⟨rfl,hJx⟩)
    ·gi_wp2
     go_roundw
     case rel=>exact⟨k+1,by omega,by go_num,by rw[upto_succ];exact hJ4,e5.trans kA3,e6.trans kB3⟩
     case measure=>simp[intOf];omega
    ·gi_wp2
     refine bodyPost_ret (results_none rfl _ _ _) rfl ?_
     exact⟨⟨_,rfl⟩,.inr ⟨_,trivial,hJx⟩⟩
   ·have hfit:FitS (lineAt (ax,ay) (bx,by_) k):=by rw[lineAt_zero hlA hNz];exact⟨⟨by omega,by omega⟩,⟨by omega,by omega⟩⟩
    have hval:(lineS (ax,ay) (bx,by_) k).1=(ax,ay):=(lineS_val hfit).trans (lineAt_zero hlA hNz)
    clear hfit
    replace hlA:=Lib.hid hlA
    have hB3:RowKit.Below wr.heap.size wr (wr.alloc (.cells #[.int .i64 ax,.int .i64 ay] 122)):=(by repeat' (first|with_reducible (first|exact zR _ _|exact yR _|assumption|refine zG ?_ ?_ _|refine zA ?_ ?_ _|refine zS ?_ ?_ _|refine zD ?_|refine yA ?_|refine yG ?_|refine yS ?_|refine yD ?_)|omega|(dsimp only;omega)))
    have hJ3:=hJ _ wr _ hJs (grownBy_of_below hB3)
    have kA3:=kA2.below hB3 lA
    have kB3:=kB2.below hB3 lB
    obtain⟨fn,tmps,assign,body,hy,hR⟩:=hY _ (lineS (ax,ay) (bx,by_) k) _ hJ3 (by rw[upto_length,hNe.out,hm1.out];exact hlt)
    rw[hval] at hy
    gi_wp2
    refine hR.mono ?_
    rintro e W4 (⟨rfl,hJ4,e5,e6⟩|⟨rfl,hJx⟩)
    ·gi_wp2
     go_roundw
     case rel=>exact⟨k+1,by omega,by go_num,by rw[upto_succ];exact hJ4,e5.trans kA3,e6.trans kB3⟩
     case measure=>simp[intOf];omega
    ·gi_wp2
     refine bodyPost_ret (results_none rfl _ _ _) rfl ?_
     exact⟨⟨_,rfl⟩,.inr ⟨_,trivial,hJx⟩⟩
  ·obtain rfl:k=m+1:=by omega
   have hltI:¬(((m+1:Nat):Int)<N+1):=by have:=hm.out;omega
   replace hlA:=Lib.hid hlA
   gi_wp2
   go_end0
   exact⟨⟨_,rfl⟩,.inl (by rw[hNe.out,hm1.out];exact hJs)⟩
def KeepB (Ba Bb:Nat)(A B:World):Prop:=B.heap[Ba]? =A.heap[Ba]?∧B.heap[Bb]? =A.heap[Bb]?
theorem keepB_t {Ba Bb:Nat}{A B C:World}(h:KeepB Ba Bb A B)(k:KeepB Ba Bb B C):KeepB Ba Bb A C:=⟨k.1.trans h.1,k.2.trans h.2⟩
theorem keepB_b {Ba Bb:Nat}{w:World}(ha:Ba<w.heap.size)(hb:Bb<w.heap.size)(W:World)(l:Nat)(o o':Obj)(hl:w.heap.size≤l)(_:W.heap[l]? =some o)(_:o.isCells=false)(_:o.isWalk=false):KeepB Ba Bb W (W.putObj l o') :=
 ⟨World.putObj_heap_other (by omega),World.putObj_heap_other (by omega)⟩
theorem line_stops (n:Nat)(hn:1≤n)(Ba Bb:Nat)(a b:Spot)(ha:Near a)(hb:Near b)(w:World)
 (kA:Blk w Ba #[.int .i64 a.1,.int .i64 a.2] 122) (kB:Blk w Bb #[.int .i64 b.1,.int .i64 b.2] 122) :
 SeqStopsK Fence.wide n prog 139 #[.pointer (some ⟨Bb,0,none⟩),.pointer (some ⟨Ba,0,none⟩)] (fun x:NSpot=> #[spotV x.1]) (KeepB Ba Bb) (fun ys=>ys=upto (lineS a b) (lineN a b+1).toNat) (fun _=>True) (lineN a b+1).toNat w:=fun l J Jx W hW hJ _ hY h0=>by
 obtain⟨ax,ay⟩:=a
 obtain⟨bx,by_⟩:=b
 obtain⟨a0,a1,a2,a3⟩:=ha
 obtain⟨b0,b1,b2,b3⟩:=hb
 exact line1_in n hn l Ba Bb 0 ax ay bx by_ a0 a1 a2 a3 b0 b1 b2 b3 J Jx hY (fun pre A A' hj hg=>hJ pre A A' none hj hg (fun r e=>by cases e)) W (kA.below hW kA.lt) (kB.below hW kB.lt) h0
theorem line_any (ax ay bx by_:Int)(w:World) :
 Calls prog 82 #[spotV (ax,ay),spotV (bx,by_)] w fun e w'=>e= .returned (.func (.func 139) #[] #[.pointer (some ⟨w.heap.size+1,0,none⟩),.pointer (some ⟨w.heap.size,0,none⟩)]) ∧
  w'=(w.alloc (.cells #[.int .i64 ax,.int .i64 ay] 122)).alloc (.cells #[.int .i64 bx,.int .i64 by_] 122):=by
 go_enter func82,ntmps82
 go_wp2_with fail
 go_ret
 exact⟨rfl,rfl⟩
theorem waysClosure_any (x y:Int)(w:World) :
 Calls prog 81 #[.agg #[.int .i64 x,.int .i64 y]] w fun e w'=>e= .returned (.bool (!rightP x y))∧Below w.heap.size w w':=by
 obtain⟨b,hb⟩:∃b,rightP x y=b:=⟨_,rfl⟩
 rw[hb]
 replace hb:=Lib.hid hb
 go_enter func81,ntmps81
 go_wp2_with (go_at_call 60;refine (right_eq hb.out _).mono ?_;rintro e w'⟨rfl,hb_⟩;obtain⟨p,rfl⟩:=grow_of_below hb_;clear hb_)
 go_ret
 exact⟨by simp,(by repeat' (first|with_reducible (first|exact zR _ _|exact yR _|assumption|refine zG ?_ ?_ _|refine zA ?_ ?_ _|refine zS ?_ ?_ _|refine zD ?_|refine yA ?_|refine yG ?_|refine yS ?_|refine yD ?_)|omega|(dsimp only;omega)))⟩
end
section
open Go.RowKit Go.Shelf Go.Maps
attribute [local go_sem] Oper.semAt_some
def wput (s:Sh)(id:Int)(en:List (Spot×Int))(d:Spot):List (Spot×Int) :=
 if onS s d.1 d.2&&(!hasK en d||decide (id<(idOf en d).getD 0)) then putE en d id else en
def dotOf (s:Sh)(p:Spot):Spot:=(dotX s p.1,dotY s p.2)
def lineL (s:Sh)(p q:Spot):List NSpot:=upto (lineS (dotOf s p) (dotOf s q)) (lineN (dotOf s p) (dotOf s q)+1).toNat
def linePut (s:Sh)(id:Int)(en:List (Spot×Int))(l:List NSpot):List (Spot×Int):=l.foldl (fun en d=>wput s id en d.1) en
structure WI (s:Sh)(id:Int)(w:World)(Bs mb Bm Bw n0:Nat)(way:Array Value)(en0:List (Spot×Int))(pre:List NSpot)(W:World):Prop where
 map:∃n,n≤n0+pre.length∧MapIs W mb n (linePut s id en0 pre)
 sheet:Blk W Bs #[.int .i64 s.ax,.int .i64 s.ay,.int .i64 s.st,.int .i64 s.w,.int .i64 s.h,.int .i64 s.g] 28
 box:Blk W Bm #[.map (some mb)] 117
 way:Blk W Bw way 149
 below:Below w.heap.size w W
theorem WI.own {s:Sh}{id:Int}{w:World}{Bs mb Bm Bw n0 B:Nat}{way:Array Value}{en0:List (Spot×Int)}(hs:Bs<B)(hm:mb<B)(hb:Bm<B)(hw:Bw<B)(hB:w.heap.size≤B):OwnFrom B (WI s id w Bs mb Bm Bw n0 way en0):=fun pre X Y row h hg hr=>by
 have hne:∀b,b<B→row≠some b:=fun b hb e=>by have:=(hr b e).1;omega
 obtain⟨⟨n,hn,hM⟩,h1,h2,h3,h4⟩:=h
 exact⟨⟨n,hn,hM.kept hg (hne _ hm)⟩,h1.kept hg (hne _ hs),h2.kept hg (hne _ hb),h3.kept hg (hne _ hw),h4.grown hg h4.size (fun k e=>Nat.le_trans hB (hr k e).1)⟩
theorem WI.grown {s:Sh}{id:Int}{w W W':World}{Bs mb Bm Bw n0:Nat}{way:Array Value}{en0:List (Spot×Int)}{pre:List NSpot}(h:WI s id w Bs mb Bm Bw n0 way en0 pre W)(hg:W.grownBy W' none):WI s id w Bs mb Bm Bw n0 way en0 pre W':=by
 obtain⟨⟨n,hn,hM⟩,h1,h2,h3,h4⟩:=h
 exact⟨⟨n,hn,hM.kept hg (by simp)⟩,h1.kept hg (by simp),h2.kept hg (by simp),h3.kept hg (by simp),h4.grown hg h4.size (fun k e=>by cases e)⟩
theorem near_dot {s:Sh}{x y i j:Int}(hs:OkS s)(x0 : -16384≤x)(x1:x≤16384)(y0 : -16384≤y)(y1:y≤16384)(hi:dotX s x=i)(hj:dotY s y=j):Near (i,j):=by
 have h1:=tdiv_ge (a:=x-s.ax) (b:=s.st) (m:=32768) (by have:=hs.st0;omega) (by have:=hs.x1;omega) (by have:=hs.x0;omega)
 have h2:=tdiv_ge (a:=y-s.ay) (b:=s.st) (m:=32768) (by have:=hs.st0;omega) (by have:=hs.y1;omega) (by have:=hs.y0;omega)
 unfold dotX at hi
 unfold dotY at hj
 exact⟨by show _≤i;omega,by show i≤_;omega,by show _≤j;omega,by show j≤_;omega⟩
theorem wpIn_rangeFunc_box {F:Fence}{n:Nat}{P:Program}{α:Type}{g:Operand}{ps:Array Tmp}{assign body:Code}{Q:Exit→Act→World→Prop}{a:Act}{w:World}(slot sbox:Nat)(encV:α→Value)(encC:α→Array Value)(ty:TypeId)
 (hro:F.round=none) (h1:1≤n) {gf:Nat} {lb:Array Value} (hg:a.eval g= .func (.func gf) #[] lb) (hFg:F.fn gf) (eg:∀args w,(callFunc gf args).run P w= .ok (.enter gf args) w)
 {encs:α→Array Value} {Kp:World→World→Prop} {S Sp:List α→Prop} {N:Nat} {w0:World} (hseq:SeqStopsK F (n-1) P gf lb encs Kp S Sp N w0)
 (hKt:∀ {A B C:World},Kp A B→Kp B C→Kp A C) (hKb:∀(W:World) (l:Nat) (o o':Obj),w.heap.size≤l→W.heap[l]? =some o→o.isCells=false→o.isWalk=false→Kp W (W.putObj l o')) (hb0:Below w0.heap.size w0 w) (hps:∀x,(encs x).size=ps.size)
 (I:List α→World→Prop) (hI:OwnFrom w.heap.size I) (h0:I [] w)
 (hassign:∀(l:Nat) (pre:List α) (x:α) (W:World) (K:Act→World→Prop),I pre W→(∀a' W',KeepsFrom w.heap.size W W'→Kp W W'→I pre W'→(∃Bx,w.heap.size≤Bx∧Blk W' Bx (encC x) ty∧a'={ tmps:=(a.tmps.setIfInBounds slot (encV x)).setIfInBounds sbox (.pointer (some ⟨Bx,0,none⟩)),defers:=[] })→K a' W') →
  assign.wpIn (F.inRound l) (n-1-1) P (Exit.then K (fun _ _ _=>False)) { tmps:=(ps.zip (encs x)).foldl (fun t (p,v)=>t.setIfInBounds p v) a.tmps,defers:=[] } W)
 (hbody:∀(l:Nat) (pre:List α) (x:α) (Bx:Nat) (W:World),I pre W→w.heap.size≤Bx→Blk W Bx (encC x) ty→pre.length<N→body.wpIn (F.inRound l) (n-1-1) P (ownPostG w.heap.size Kp I (fun _ _ _=>False) (pre++[x]) W) { tmps:=(a.tmps.setIfInBounds slot (encV x)).setIfInBounds sbox (.pointer (some ⟨Bx,0,none⟩)),defers:=[] } W)
 (hdone:∀(D:Nat) (xs:List α) (W:World),w.heap.size≤D→S xs→I xs W→W.heap[D]? =some (.deferred (some []))→Q .normal { a with defers:={ target:= .collected D,args:= #[] }::a.defers } W) :
 (Code.rangeFunc g ps assign body).wpIn F n P Q a w :=
 wpIn_rangeFunc_ownH hro h1 hg hFg eg hseq hKt hKb hb0 hps I (fun _ _ _=>False) hI (fun _=>ownFrom_pure _ _) h0
  (fun x a' W=>∃Bx,w.heap.size≤Bx∧Blk W Bx (encC x) ty∧a'={ tmps:=(a.tmps.setIfInBounds slot (encV x)).setIfInBounds sbox (.pointer (some ⟨Bx,0,none⟩)),defers:=[] })
  (fun x a' _ X Y row hs hg hr=>by obtain⟨Bx,k1,k2,k3⟩:=hs;exact⟨Bx,k1,blk_own Bx ty (fun (_:Unit)=>encC x) () X Y row k2 hg (fun r e=>(hr r e).2),k3⟩)
  hassign (fun l pre x a' W _ _ hi hax hl=>by obtain⟨Bx,k1,k2,rfl⟩:=hax;exact hbody l pre x Bx W hi k1 k2 hl) hdone (fun _ _ _ _ _ _ hF _=>hF.elim)
theorem keepB_grown {Ba Bb:Nat}{W W':World}{row:Option Nat}(hg:W.grownBy W' row)(ha:Ba<W.heap.size)(hb:Bb<W.heap.size)(hra:row≠some Ba)(hrb:row≠some Bb):KeepB Ba Bb W W' :=
 ⟨hg.block Ba ha (fun e=>hra e.symm),hg.block Bb hb (fun e=>hrb e.symm)⟩
theorem linePut_snoc (s:Sh)(id:Int)(en:List (Spot×Int))(pre:List NSpot)(x:NSpot):linePut s id en (pre++[x])=wput s id (linePut s id en pre) x.1:=by simp[linePut]
theorem WI.sized {s:Sh}{id:Int}{w:World}{Bs mb Bm Bw n0 B Z:Nat}{way:Array Value}{en0:List (Spot×Int)}(hs:Bs<B)(hm:mb<B)(hb:Bm<B)(hw:Bw<B)(hB:w.heap.size≤B):OwnFrom B (fun pre W=>WI s id w Bs mb Bm Bw n0 way en0 pre W∧Z≤W.heap.size):=fun pre X Y row h hg hr =>
 ⟨WI.own hs hm hb hw hB pre X Y row h.1 hg hr,Nat.le_trans h.2 hg.size⟩
theorem lineN_le {a b:Spot}(ha:Near a)(hb:Near b):(lineN a b+1).toNat≤80001:=by
 have h:=max4_le (a:=b.1-a.1) (b := -(b.1-a.1)) (c:=b.2-a.2) (d := -(b.2-a.2)) (m:=80000) (by have:=ha.x0;have:=hb.x1;omega) (by have:=ha.x1;have:=hb.x0;omega) (by have:=ha.y0;have:=hb.y1;omega) (by have:=ha.y1;have:=hb.y0;omega)
 have h2:lineN a b≤80000:=h
 omega
theorem putE_length (l:List (Spot×Int))(p:Spot)(x:Int):(putE l p x).length≤l.length+1:=by unfold putE;split <;> simp
end
section
open Go.RowKit Go.Shelf
attribute [local go_sem] Oper.semAt_some
theorem mod_mod (n m:Int)(hm:1≤m):(n.tmod m+m) % m=n % m:=by
 rw[Int.add_emod_right,Int.tmod_eq_emod]
 split
 ·rw[Int.natCast_zero,Int.sub_zero,Int.emod_emod_of_dvd _ (Int.dvd_refl m)]
 ·rw[Int.natAbs_of_nonneg (by omega),Int.sub_emod_right,Int.emod_emod_of_dvd _ (Int.dvd_refl m)]
theorem mod_any (n m:Int)(w:World)(hn:fits n)(h1:1≤m)(h2:m≤4611686018427387904) :
 Calls prog 77 #[.int .i64 n,.int .i64 m] w fun r w'=>r= .returned (.int .i64 (n % m))∧w=w':=by
 obtain⟨n0,n1⟩:=hn
 have b0:=Int.lt_tmod_of_pos n (b:=m) (by omega)
 have b1:=Int.tmod_lt_of_pos n (b:=m) (by omega)
 have b2:0≤n.tmod m+m:=by omega
 have b3:n.tmod m+m≤9223372036854775807:=by omega
 have h0:(m==0)=false:=by simp;omega
 have HM:=Lib.hid (mod_mod n m h1)
 go_enter func77,ntmps77
 go_wp2_with fail
 go_ret
 exact⟨ret_int HM.out,rfl⟩
theorem rbetween_any (n lo hi:Int)(w:World) :
 Calls prog 141 #[.int .i64 n,.int .i64 lo,.int .i64 hi] w fun e w'=>e= .returned (.bool (inR lo n hi))∧w=w':=by
 go_enter func141,ntmps141
 go_wp2_with fail
 all_goals
  go_ret
  exact⟨by unfold inR;first|rfl|(congr 2;simp;omega),rfl⟩
theorem onS_iff {s:Sh}{i j:Int}:onS s i j=true↔(0≤i∧i<s.w)∧0≤j∧j<s.h:=by
 simp only[onS,inR,Bool.and_eq_true,decide_eq_true_eq]
 omega
theorem checkS_in {s:Sh}(h:(1≤s.st∧s.st≤1024)∧(1≤s.w∧s.w≤80)∧(1≤s.h∧s.h≤80)∧(1≤s.g∧s.g≤4)):checkS s=if rightP s.ax s.ay&&rightP (s.ax+s.w*s.st) (s.ay+s.h*s.st) then 0 else 10:=by
 unfold checkS
 rw[if_pos]
 simp only[Bool.and_eq_true,inR_iff]
 omega
structure InS (s:Sh):Prop where
 a1:1≤s.st
 a2:s.st≤1024
 b1:1≤s.w
 b2:s.w≤80
 c1:1≤s.h
 c2:s.h≤80
 d1:1≤s.g
 d2:s.g≤4
def apF (a b:Int):Int:=if a≤b then (if 80<b-a then 80 else b-a) else (if 80<a-b then 80 else a-b)
structure DtRow (W:World)(b o:Nat)(d:Dt):Prop where
 c0:W.cell? ⟨b,o,none⟩=some (.int .i64 d.x)
 c1:W.cell? ⟨b,o+1,none⟩=some (.int .i64 d.y)
 c2:W.cell? ⟨b,o+2,none⟩=some (.int .i64 d.k)
 c3:W.cell? ⟨b,o+3,none⟩=some (.int .i64 d.i)
theorem DtRow.below {n₀:Nat}{A B:World}(h:Below n₀ A B){b o:Nat}{d:Dt}(hb:b<n₀)(r:DtRow A b o d):DtRow B b o d :=
 ⟨(h.cell (p:=⟨b,o,none⟩) hb).trans r.c0,(h.cell (p:=⟨b,o+1,none⟩) hb).trans r.c1,(h.cell (p:=⟨b,o+2,none⟩) hb).trans r.c2,(h.cell (p:=⟨b,o+3,none⟩) hb).trans r.c3⟩
def Dts (n₀:Nat)(W:World)(sv:Value)(l:List Dt):Prop :=
 (sv= .slice none 0 0∧l=[])∨∃b off cap,sv= .slice (some ⟨b,off,none⟩) l.length cap∧b<n₀∧l.length≤4294967296∧(∀d∈l,fits d.x∧fits d.y)∧∀j,(h:j<l.length)→DtRow W b (off+j*4) l[j]
theorem Dts.below {n₀:Nat}{A B:World}(h:Below n₀ A B){sv:Value}{l:List Dt}:Dts n₀ A sv l→Dts n₀ B sv l
 |.inl e=> .inl e
 |.inr ⟨b,off,cap,e,hb,hl,hf,hc⟩=> .inr ⟨b,off,cap,e,hb,hl,hf,fun j hj=>(hc j hj).below h hb⟩
theorem Dts.mono {n₀ n₁:Nat}(h:n₀≤n₁){W:World}{sv:Value}{l:List Dt}:Dts n₀ W sv l→Dts n₁ W sv l
 |.inl e=> .inl e
 |.inr ⟨b,off,cap,e,hb,r⟩=> .inr ⟨b,off,cap,e,Nat.lt_of_lt_of_le hb h,r⟩
theorem flat4:∀(l:List Dt)(j:Nat)(h:j<l.length),(l.flatMap encD)[j*4]? =some (.int .i64 l[j].x)∧(l.flatMap encD)[j*4+1]? =some (.int .i64 l[j].y)∧(l.flatMap encD)[j*4+2]? =some (.int .i64 l[j].k)∧(l.flatMap encD)[j*4+3]? =some (.int .i64 l[j].i)
 |[],j,h=>by simp at h
 |d::l,0,_=>by simp
 |d::l,j+1,h=>by
  have ih:=flat4 l j (by simpa using h)
  have e:(j+1)*4=j*4+1+1+1+1:=by omega
  rw[e]
  simpa [List.flatMap_cons,Nat.add_assoc] using ih
theorem dts_of_row {base:Nat}{W:World}{v:Value}{l:List Dt}(h:W.ownsRow base 54 4 v l.length (l.flatMap encD))(hl:l.length≤4294967296)(hf:∀d∈l,fits d.x∧fits d.y):Dts W.heap.size W v l:=by
 rcases h.2 with ⟨rfl,h0⟩|⟨g,cap,cur,rfl,hbase,hgb,_⟩
 ·exact .inl ⟨rfl,List.eq_nil_of_length_eq_zero h0⟩
 ·refine .inr ⟨g,0,cap,rfl,(Array.getElem?_eq_some_iff.1 hgb).1,hl,hf,fun j hj=> ?_⟩
  obtain⟨f0,f1,f2,f3⟩:=flat4 l j hj
  rw[Nat.zero_add]
  exact⟨(h.cellAt _ (by omega)).trans f0,(h.cellAt _ (by omega)).trans f1,(h.cellAt _ (by omega)).trans f2,(h.cellAt _ (by omega)).trans f3⟩
def apD (d e:Dt):Int:=if apF d.y e.y>apF d.x e.x then apF d.y e.y else apF d.x e.x
def stepL (m:Int)(d e:Dt):Int:=if apD d e<m then apD d e else m
def leastI (d:Dt)(m:Int)(b:List Dt):Int:=b.foldl (fun m e=>stepL m d e) m
def leastF (a b:List Dt):Int:=a.foldl (fun m d=>leastI d m b) 80
theorem Dts.open_ {n₀:Nat}{W:World}{sv:Value}{l:List Dt}(h:Dts n₀ W sv l):l.length≤4294967296∧∃a cap,sv= .slice a l.length cap∧∀j,(h:j<l.length)→∃b off,a=some ⟨b,off,none⟩∧b<n₀∧DtRow W b (off+j*4) l[j]∧fits l[j].x∧fits l[j].y:=by
 rcases h with ⟨rfl,rfl⟩|⟨b,off,cap,rfl,hb,hl,hf,hc⟩
 ·exact⟨by simp,none,0,rfl,fun j hj=>by simp at hj⟩
 ·exact⟨hl,_,cap,rfl,fun j hj=>⟨b,off,rfl,hb,hc j hj,hf _ (List.getElem_mem hj)⟩⟩
theorem digit_any (c:Int)(b:Bool)(hb:(decide (48≤c)&&decide (c≤57))=b)(w:World):Calls prog 119 #[.int .u8 c] w fun e w'=>e= .returned (.bool b)∧w=w':=by
 subst hb
 go_enter func119,ntmps119
 go_wp2_with fail
 all_goals
  go_ret
  exact⟨by first|rfl|(congr 2;simp;omega),rfl⟩
def one:ByteArray:=⟨#[49]⟩
def wordsC:Array Value:= #[.string ⟨#[119,105,116,104]⟩,.string ⟨#[116,104,101]⟩,.string ⟨#[97,110,100]⟩,.string ⟨#[102,111,114]⟩,.string ⟨#[105,110,103]⟩,.string ⟨#[111,102]⟩,.string ⟨#[99,104]⟩,.string ⟨#[115,104]⟩,.string ⟨#[116,104]⟩,.string ⟨#[115,116]⟩,.string ⟨#[101,114]⟩]
def wordsL:List ByteArray:=[⟨#[119,105,116,104]⟩,⟨#[116,104,101]⟩,⟨#[97,110,100]⟩,⟨#[102,111,114]⟩,⟨#[105,110,103]⟩,⟨#[111,102]⟩,⟨#[99,104]⟩,⟨#[115,104]⟩,⟨#[116,104]⟩,⟨#[115,116]⟩,⟨#[101,114]⟩]
theorem words_any (w:World):Calls prog 115 #[] w fun e w'=>e= .returned (.slice (some ⟨w.heap.size,0,none⟩) 11 11)∧w'=w.alloc (.cells wordsC 9):=by
 go_enter func115,ntmps115
 go_wp2_with fail
 go_ret
 exact⟨rfl,rfl⟩
theorem sizeBuilder:(prog.info? 178).map (·.size)=some 2:=by kernel_rfl
theorem liesBuilder:liesAt prog prog.depth 178 (2 / prog.cellsOf 178) 0 178 1=true:=by kernel_rfl
theorem copyCheck_used (b:Nat)(w:World)(h0:w.cell? ⟨b,0,none⟩=some (.pointer (some ⟨b,0,none⟩))) :
 Calls prog 157 #[.pointer (some ⟨b,0,none⟩)] w fun e w'=>e= .returned (.tuple #[])∧w'=w:=by
 obtain⟨j,hj,_⟩:=Option.map_eq_some_iff.1 sizeBuilder
 go_enter func157,ntmps157
 go_wp2
 rw[Lib.run_neq_ptr_same w _ underlying176 hj]
 go_wp2
 go_end0
 exact⟨rfl,rfl⟩
theorem copyCheck_fresh (b:Nat)(w:World)(h0:w.cell? ⟨b,0,none⟩=some (.pointer none))(hsh:w.shape? b=some (178,2))(hfz:w.frozen? ⟨b,0,none⟩=false) :
 Calls prog 157 #[.pointer (some ⟨b,0,none⟩)] w fun e w'=>e= .returned (.tuple #[])∧w'=w.setCell ⟨b,0,none⟩ (.pointer (some ⟨b,0,none⟩)):=by
 obtain⟨j,hj,hjs⟩:=Option.map_eq_some_iff.1 sizeBuilder
 go_enter func157,ntmps157
 go_wp2
 rw[Lib.run_to_unsafe w ⟨b,0,none⟩ underlying176 underlying232 hj (by rw[hjs];decide) hsh (Nat.zero_lt_succ 1)]
 simp only[Result.andThen]
 rw[Oper.upon_value]
 go_wp2
 rw[run_callFunc_extern func173 (by kernel_rfl) (by kernel_rfl) (by kernel_rfl) (e:=Extern.AbiNoEscape.same) (by kernel_rfl)]
 rw[Lib.run_noEscape]
 simp only[Result.andThen]
 rw[Oper.upon_value]
 go_wp2
 rw[Lib.run_from_unsafe w ⟨b,0,none⟩ underlying232 underlying176 hj hsh liesBuilder]
 simp only[Result.andThen]
 rw[Oper.upon_value]
 go_wp2
 go_end0
 exact⟨rfl,rfl⟩
theorem infoByte:(prog.info? 5).map (fun i=>(i.zero,i.size,i.bytes))=some (some (.int .u8 0),1,1):=by kernel_rfl
theorem infoByte_parts:∃i,prog.info? 5=some i∧i.zero=some (.int .u8 0)∧i.size=1∧i.bytes=1:=by
 obtain⟨i,hi,h⟩:=Option.map_eq_some_iff.1 infoByte
 simp only[Prod.mk.injEq] at h
 exact⟨i,hi,h.1,h.2.1,h.2.2⟩
theorem copyCheck_k (B b:Nat)(bs:List Value)(w:World)(h:Lib.IsBuilderF 178 5 B b bs w) :
 Calls prog 157 #[.pointer (some ⟨b,0,none⟩)] w fun e w'=>e= .returned (.tuple #[])∧(Lib.BuilderAtF 178 5 B b (.pointer (some ⟨b,0,none⟩)) bs w'∧Below B w w'∧Lib.OthersKept 5 (some b) w w'):=by
 rcases h with h|h
 ·refine (copyCheck_fresh b w h.cell0 h.shape h.frozen0).mono ?_
  rintro e w'⟨rfl,rfl⟩
  exact⟨rfl,h.used _,(zR B w).setCell (p:=⟨b,0,none⟩) h.1 _,(Lib.OthersKept.refl _ _ w).setCell ⟨b,0,none⟩ rfl _⟩
 ·refine (copyCheck_used b w h.cell0).mono ?_
  rintro e w'⟨rfl,rfl⟩
  exact⟨rfl,h,zR B _,Lib.OthersKept.refl _ _ _⟩
theorem writeByte_k (B b:Nat)(bs:List Value)(c:Int)(w:World)(h:Lib.IsBuilderF 178 5 B b bs w)(hlen:bs.length+1≤140737488355328)(hBw:B≤w.heap.size) :
 Calls prog 118 #[.pointer (some ⟨b,0,none⟩),.int .u8 c] w fun e w'=>e= .returned .nilIface∧(Lib.BuilderAtF 178 5 B b (.pointer (some ⟨b,0,none⟩)) (bs++[.int .u8 c]) w'∧Below B w w'∧Lib.OthersKept 5 (some b) w w'):=by
 obtain⟨i0,hi,hz0,hz1,hz2⟩:=infoByte_parts
 go_enter func118,ntmps118
 go_wp2_with (go_at_call 157;refine (copyCheck_k B b bs _ h).mono ?_)
 rintro e w1⟨rfl,h1,hb1,hk1⟩
 obtain⟨hB,v,hbk,hown,hne⟩:=h1
 have c0:w1.cell? ⟨b,0,none⟩=some (.pointer (some ⟨b,0,none⟩)):=by rw[Lib.cell_of_heap hbk];rfl
 have c1:w1.cell? ⟨b,1,none⟩=some v:=by rw[Lib.cell_of_heap hbk];rfl
 go_wp2_with (at_builtin;refine wpList_append_ownF _ rfl _ _ 116 rfl B 5 i0 (.int .u8 0) 1 1 underlying116 hi hz0 hz1 hz2 rfl (by decide) _ _ _ rfl (hown.alloc _) ⟨w1.heap.size,0,none⟩ 1 1 [.int .u8 c] rfl rfl ?c1 ?c2 ?c3 ?c4 ?c5 ?_)
 case c1 =>
  intro j u hj
  match j,hj with
  |0,hj=>simp at hj;subst hj;simp[Addr.add]
 case c2=>intro u hu;simp at hu;subst hu;rfl
 case c3=>unfold maxLen;omega
 case c4=>omega
 case c5=>have:=hb1.size;simp;omega
 intro v' w2 hown' hgrow _
 have hlt:b<w1.heap.size:=by
  rcases Nat.lt_or_ge b w1.heap.size with h'|h'
  ·exact h'
  ·simp[Array.getElem?_eq_none h'] at hbk
 have hb2:w2.heap[b]? =some (.cells #[.pointer (some ⟨b,0,none⟩),v] 178 (0,0)):=by
  rw[hgrow.block b (by simp;omega) (fun e=>hne e.symm),Lib.alloc_old w1 _ b hlt]
  exact hbk
 have d0:w2.cell? ⟨b,0,none⟩=some (.pointer (some ⟨b,0,none⟩)):=by rw[Lib.cell_of_heap hb2];rfl
 have d1:w2.cell? ⟨b,1,none⟩=some v:=by rw[Lib.cell_of_heap hb2];rfl
 have f1:w2.frozen? ⟨b,1,none⟩=false:=Lib.frozen_of_heap hb2 1
 obtain⟨g,cap,rfl⟩:∃g cap,v'= .slice (some ⟨g,0,none⟩) (bs.length+1) cap:=by
  rcases hown'.2 with ⟨_,h0⟩|⟨g,cap,cur,fz,hv,_⟩
  ·omega
  ·exact⟨g,cap,hv⟩
 go_wp2
 go_ret
 refine⟨rfl,?_,?_,((hk1.alloc _).grown hgrow (Lib.ownsRowF_kind (hown.alloc _))).setCell ⟨b,1,none⟩ rfl _⟩
 ·exact Lib.BuilderAtF.put (T:=178) (e:=5) hB hb2 (bs':=bs++[.int .u8 c]) (by simpa using hown') (by decide)
 ·exact ((hb1.alloc (by have:=hb1.size;omega) _).grown hgrow (by have:=hb1.size;simp;omega) (fun k hk=>(hown.lt k hk).1)).setCell (p:=⟨b,1,none⟩) hB _
structure BW (B sb b kb:Nat)(s:ByteArray)(k:Int)(l:List UInt8)(w0 w:World):Prop where
 below:Below B w0 w
 sbk:w.heap[sb]? =some (.cells #[.string s] 9 (0,0))
 kbk:w.heap[kb]? =some (.cells #[.int .i64 k] 3 (0,0))
 bld:Lib.IsBuilderF 178 5 B b (Lib.byteCells l) w
 kB:B≤kb
 neb:kb≠b
 nes:sb≠b
 nek:sb≠kb
theorem lt_of_heap {w:World}{k:Nat}{o:Obj}(h:w.heap[k]? =some o):k<w.heap.size:=(Array.getElem?_eq_some_iff.1 h).1
section
variable {B sb b kb:Nat}{s:ByteArray}{k:Int}{l:List UInt8}{w0 w:World}
theorem BW.le (h:BW B sb b kb s k l w0 w):B≤w.heap.size:=Nat.le_of_lt (Nat.lt_of_le_of_lt h.kB (lt_of_heap h.kbk))
theorem BW.alloc (h:BW B sb b kb s k l w0 w)(o:Obj):BW B sb b kb s k l w0 (w.alloc o) where
 below:=h.below.alloc h.le o
 sbk:=by rw[Lib.alloc_old w o sb (lt_of_heap h.sbk)];exact h.sbk
 kbk:=by rw[Lib.alloc_old w o kb (lt_of_heap h.kbk)];exact h.kbk
 bld:=h.bld.alloc o
 kB:=h.kB
 neb:=h.neb
 nes:=h.nes
 nek:=h.nek
theorem BW.drewN (h:BW B sb b kb s k l w0 w)(n:Nat):BW B sb b kb s k l w0 (w.drewN n) where
 below:=below_drewN' h.below n
 sbk:=h.sbk
 kbk:=h.kbk
 bld:=h.bld
 kB:=h.kB
 neb:=h.neb
 nes:=h.nes
 nek:=h.nek
theorem BW.cs (h:BW B sb b kb s k l w0 w):w.cell? ⟨sb,0,none⟩=some (.string s):=by rw[Lib.cell_of_heap h.sbk];rfl
theorem BW.ck (h:BW B sb b kb s k l w0 w):w.cell? ⟨kb,0,none⟩=some (.int .i64 k):=by rw[Lib.cell_of_heap h.kbk];rfl
theorem BW.fk (h:BW B sb b kb s k l w0 w):w.frozen? ⟨kb,0,none⟩=false:=Lib.frozen_of_heap h.kbk 0
theorem BW.byte (h:BW B sb b kb s k l w0 w)(c:UInt8)(hl:l.length+1≤140737488355328) :
 Calls prog 118 #[.pointer (some ⟨b,0,none⟩),.int .u8 c.toNat] w fun e w'=>e= .returned .nilIface∧BW B sb b kb s k (l++[c]) w0 w':=by
 refine (writeByte_k B b (Lib.byteCells l) c.toNat w h.bld (by rw[Lib.byteCells_length];exact hl) h.le).mono ?_
 rintro e w'⟨rfl,h1,h2,h3⟩
 refine⟨rfl,h.below.trans h2,h3 sb _ h.sbk (fun e=>h.nes (Option.some.inj e)) (fun c fz e=>by cases e),h3 kb _ h.kbk (fun e=>h.neb (Option.some.inj e)) (fun c fz e=>by cases e),?_,h.kB,h.neb,h.nes,h.nek⟩
 rw[show Lib.byteCells (l++[c])=Lib.byteCells l++[.int .u8 c.toNat] from by simp[Lib.byteCells]]
 exact .inr h1
theorem BW.newk (h:BW B sb b kb s k l w0 w)(k':Int):BW B sb b w.heap.size s k' l w0 (w.alloc (.cells #[.int .i64 k'] 3)) where
 below:=h.below.alloc h.le _
 sbk:=by rw[Lib.alloc_old w _ sb (lt_of_heap h.sbk)];exact h.sbk
 kbk:=heap_alloc_last w _
 bld:=h.bld.alloc _
 kB:=h.le
 neb:=by
  have hb:b<w.heap.size:=by rcases h.bld with h1|h1 <;> exact h1.lt
  omega
 nes:=h.nes
 nek:=Nat.ne_of_lt (lt_of_heap h.sbk)
end
theorem idx_none {p:ByteArray→Bool}:∀(zs:List ByteArray)(i:Nat),(∀x∈zs,p x=false)→Lib.idxByFrom (fun _ y=>p y) default zs i = -1
 |[],_,_=>rfl
 |y::r,i,h=>by
  unfold Lib.idxByFrom
  rw[h y (List.mem_cons_self ..)]
  exact idx_none r (i+1) (fun x hx=>h x (List.mem_cons_of_mem _ hx))
theorem wpList_index_as {P:Program}{ops:Array Oper}{rest:List Oper}{o:Oper}{a:Act}{w:World}{Q:Exit→Act→World→Prop}(hg:o.guard=none)(t:TypeId)(x y:Operand)(ho:o.op= .index t x y)(s:ByteArray)(k:IntKind)(i:Int)(hx:a.eval x= .string s)(hy:a.eval y= .int k i)
 (hu:P.underlying t=some .string) (c:Int) (h0:0≤i) (h1:i<s.size) (hc:((s[i.toNat]'(by omega)).toNat:Int)=c) (h:wpList P ops Q rest (a.put o.dst (.int .u8 c)) w):wpList P ops Q (o::rest) a w:=by
 refine wpList_plain hg fun K hK=> ?_
 unfold Oper.wp execOp
 simp only[ho,hx,hy,Sem.run_bind,run_index_string w t s k i hu]
 rw[dif_pos ⟨h0,h1⟩]
 simp only[Result.andThen_ok,Sem.run_pure]
 subst hc
 exact hK _ _ h
theorem BW.start (w:World)(s:ByteArray)(p:Growth) :
 BW w.heap.size w.heap.size (w.heap.size+1+p.objs.size) (w.heap.size+1+p.objs.size+1) s 0 [] w
  ((((w.alloc (.cells #[.string s] 9)).growBy p).alloc (.cells #[.pointer none,.slice none 0 0] 178)).alloc (.cells #[.int .i64 0] 3)):=by
 obtain⟨W,hW⟩:∃W,(w.alloc (.cells #[.string s] 9)).growBy p=W:=⟨_,rfl⟩
 have hs:W.heap.size=w.heap.size+1+p.objs.size:=by rw[←hW];simp
 have hh:W.heap[w.heap.size]? =some (.cells #[.string s] 9 (0,0)):=by
  rw[←hW,World.heap_growBy _ _ (by simp)]
  exact heap_alloc_last w _
 have hbl:Below w.heap.size w W:=by rw[←hW];exact (by repeat' (first|with_reducible (first|exact zR _ _|exact yR _|assumption|refine zG ?_ ?_ _|refine zA ?_ ?_ _|refine zS ?_ ?_ _|refine zD ?_|refine yA ?_|refine yG ?_|refine yS ?_|refine yD ?_)|omega|(dsimp only;omega)))
 rw[hW,←hs]
 have hs2:(W.alloc (.cells #[.pointer none,.slice none 0 0] 178)).heap.size=W.heap.size+1:=by simp
 refine⟨(hbl.alloc (by omega) _).alloc (by rw[hs2];omega) _,?_,?_,?_,by omega,by omega,by omega,by omega⟩
 ·rw[Lib.alloc_old _ _ _ (by rw[hs2];omega),Lib.alloc_old _ _ _ (by omega)];exact hh
 ·rw[←hs2];exact heap_alloc_last _ _
 ·refine Lib.IsBuilderF.alloc (.inl ⟨by omega,.slice none 0 0,heap_alloc_last _ _,⟨rfl,.inl ⟨rfl,rfl⟩⟩,by simp[Value.ownBlock]⟩) _
theorem BW.byte' {B sb b kb:Nat}{s:ByteArray}{k:Int}{l:List UInt8}{w0 w:World}(h:BW B sb b kb s k l w0 w)(u:UInt8)(c:Int)(hc:(u.toNat:Int)=c)(hl:l.length+1≤140737488355328) :
 Calls prog 118 #[.pointer (some ⟨b,0,none⟩),.int .u8 c] w fun e w'=>e= .returned .nilIface∧BW B sb b kb s k (l++[u]) w0 w':=by
 subst hc
 exact h.byte u hl
def symC:Array Value:= #[.bool true,.bool true,.bool true,.bool true,.bool false,.bool true,.bool true,.bool true,.bool true,.bool false,.bool true,.bool false,.bool true,.bool true,.bool true,.bool false,.bool true,.bool false,.bool true,.bool false,.bool true,.bool false,.bool true,.bool false,.bool true,.bool false,.bool true,.bool true,.bool true,.bool true,.bool true,.bool true,.bool true,.bool true,.bool true,.bool true,.bool false,.bool false,.bool false,.bool true,.bool true,.bool true,.bool false,.bool false,.bool false,.bool false,.bool true,.bool false,.bool false,.bool true,.bool false,.bool false,.bool true,.bool false,.bool true,.bool false,.bool true,.bool false,.bool false,.bool false,.bool true,.bool false,.bool true]
def symZ:Array Value:= #[.bool false,.bool false,.bool false,.bool false,.bool false,.bool false,.bool false,.bool false,.bool false,.bool false,.bool false,.bool false,.bool false,.bool false,.bool false,.bool false,.bool false,.bool false,.bool false,.bool false,.bool false,.bool false,.bool false,.bool false,.bool false,.bool false,.bool false,.bool false,.bool false,.bool false,.bool false,.bool false,.bool false,.bool false,.bool false,.bool false,.bool false,.bool false,.bool false,.bool false,.bool false,.bool false,.bool false,.bool false,.bool false,.bool false,.bool false,.bool false,.bool false,.bool false,.bool false,.bool false,.bool false,.bool false,.bool false,.bool false,.bool false,.bool false,.bool false,.bool false,.bool false,.bool false,.bool false]
theorem wpList_build_as {P:Program}{ops:Array Oper}{rest:List Oper}{o:Oper}{a:Act}{w:World}{Q:Exit→Act→World→Prop}(hg:o.guard=none)(t:TypeId)(parts:Array (Nat×Operand))(ho:o.op= .build t parts)(cells:Array Value)
 (hc:P.built t (parts.map fun (i,x)=>(i,a.eval x)).toList=some cells) (h:wpList P ops Q rest (a.put o.dst (.agg cells)) w):wpList P ops Q (o::rest) a w :=
 wpList_build hg t parts ho (by rw[hc];rfl) (by rw[hc];exact h)
theorem symbols_any (w:World):Calls prog 63 #[] w fun e w'=>e= .returned (.agg symC)∧Below w.heap.size w w':=by
 have hi:(prog.info? 119).map (·.size)=some symC.size:=by kernel_rfl
 have hz:∀w,(zeroValue 119).run prog w= .ok (.agg symZ) w:=fun w=>by kernel_rfl
 go_enter func63,ntmps63
 go_wp2_with (first|(refine wpList_build_as (by rfl) 119 _ (by rfl) symC (by kernel_rfl) ?_)|(refine wpList_store_row (by rfl) 119 _ _ (by rfl) w.heap.size symC (by rfl) (by rfl) 119 symZ (heap_alloc_last w _) (by kernel_rfl) (by rfl) (by decide +kernel) ?_;rw[World.setRow_alloc_new]))
 exact bodyPost_ret (results_cell_row (by rfl) _ _ w.heap.size 119 symC (0,0) _ (by rfl) (heap_alloc_last w _) underlying119 (by rfl) hi) rfl ⟨rfl,(by repeat' (first|with_reducible (first|exact zR _ _|exact yR _|assumption|refine zG ?_ ?_ _|refine zA ?_ ?_ _|refine zS ?_ ?_ _|refine zD ?_|refine yA ?_|refine yG ?_|refine yS ?_|refine yD ?_)|omega|(dsimp only;omega)))⟩
end
end Go.Proofs.YtfocdbjceedagaaGreatDoor
