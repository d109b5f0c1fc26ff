/-
  Parts.
-/
import Derived.Test.YtfocdbjceedagaaGreatDoorMaj
import Derived.Sort.LotA
set_option linter.unusedVariables false
set_option linter.unusedSimpArgs false
set_option maxHeartbeats 4000000
set_option maxRecDepth 100000
namespace Go.Proofs.YtfocdbjceedagaaGreatDoor
open Tryz
section
open Go.RowKit Go.Shelf
variable {n₀ K:Nat}{w W W':World}{sv v:Value}{xs:List Int}{ys:List Wy}
theorem b2j {W:World}{b1 b2:Nat}{e1 e2:TypeId}{s1 s2 k1 k2:Nat}{v1 v2:Value}{x1 x2:List Value}(h1:W.ownsRow b1 e1 s1 v1 k1 x1)(h2:W.ownsRow b2 e2 s2 v2 k2 x2)(hne:e1≠e2):∀r,v2.ownBlock=some r->v1.ownBlock≠some r:=by
 intro r hr hr1;rcases h1.2 with⟨rfl,_⟩|⟨g,cap,cur,rfl,_,hgb,_⟩
 ·cases hr1
 ·rcases h2.2 with⟨rfl,_⟩|⟨g',cap',cur',rfl,_,hgb',_⟩
  ·cases hr
  ·cases hr
   cases hr1;rw[hgb]at hgb'
   cases hgb';exact hne rfl
theorem a5c {W W':World}{b1:Nat}{e1:TypeId}{s1 k1:Nat}{v1:Value}{x1:List Value}{row:Option Nat}(h1:W.ownsRow b1 e1 s1 v1 k1 x1)(hg:W.grownBy W' row)(hr:∀r,row=some r->v1.ownBlock≠some r):W'.ownsRow b1 e1 s1 v1 k1 x1:=by
 refine h1.kept hg ?_;rcases h1.2 with⟨rfl,_⟩|⟨g,cap,cur,rfl,_⟩
 ·exact .inl rfl
 ·exact .inr λe'=>hr g (by simpa[Value.ownBlock]using e'.symm) rfl
theorem b8t {W:World}{b1 B:Nat}{e1 t:TypeId}{s1 k1:Nat}{v1:Value}{x1:List Value}{c:Array Value}(h1:W.ownsRow b1 e1 s1 v1 k1 x1)(hB:Blk W B c t)(hne:e1≠t):v1.ownBlock≠some B :=
 a0o h1 hB (λe=>hne e.symm)
variable {B:Nat}{id lvl wt:Int}{lv:Value}{stb:Bool}{ps:List a0m}
end
section
open Go.RowKit Go.Shelf
attribute [local go_sem] Oper.semAt_some
def b7o :Array Value:= #[.int .i64 1,.int .i64 3,.int .i64 9,.int .i64 25,.int .i64 17,.int .i64 11,.int .i64 27,.int .i64 19,.int .i64 10,.int .i64 26,.int .i64 5,.int .i64 7,.int .i64 13,.int .i64 29,.int .i64 21,.int .i64 15,.int .i64 31,.int .i64 23,.int .i64 14,.int .i64 30,.int .i64 37,.int .i64 39,.int .i64 58,.int .i64 45,.int .i64 61,.int .i64 53]
def c4m (c n:Nat):Bool:=c / 2 ^ n % 2==1
theorem d9m (w:World):Calls prog 66 #[.int .u8 60] w λe w'=>e= .returned (.agg #[.bool false,.bool false,.bool true,.bool true,.bool true,.bool true])/\Below w.heap.size w w':=by
 have q0:bits BinOp.and IntKind.u8 60 1=0:=by decide +kernel
 have q1:bits BinOp.and IntKind.u8 60 2=0:=by decide +kernel
 have q2:bits BinOp.and IntKind.u8 60 4=4:=by decide +kernel
 have q3:bits BinOp.and IntKind.u8 60 8=8:=by decide +kernel
 have q4:bits BinOp.and IntKind.u8 60 16=16:=by decide +kernel
 have q5:bits BinOp.and IntKind.u8 60 32=32:=by decide +kernel
 go_enter func66,ntmps66;go_wp2_with fail;refine wp_loop_rounds 7 ?_;(iterate 7 (rw[rounds_succ];go_wp2_with fail));exact bodyPost_ret (v:= .agg #[.bool false,.bool false,.bool true,.bool true,.bool true,.bool true]) (by simp[results,results66,go_sem]) rfl ⟨rfl,zC⟩
theorem d9n (w:World):Calls prog 66 #[.int .u8 26] w λe w'=>e= .returned (.agg #[.bool false,.bool true,.bool false,.bool true,.bool true,.bool false])/\Below w.heap.size w w':=by
 have q0:bits BinOp.and IntKind.u8 26 1=0:=by decide +kernel
 have q1:bits BinOp.and IntKind.u8 26 2=2:=by decide +kernel
 have q2:bits BinOp.and IntKind.u8 26 4=0:=by decide +kernel
 have q3:bits BinOp.and IntKind.u8 26 8=8:=by decide +kernel
 have q4:bits BinOp.and IntKind.u8 26 16=16:=by decide +kernel
 have q5:bits BinOp.and IntKind.u8 26 32=0:=by decide +kernel
 go_enter func66,ntmps66;go_wp2_with fail;refine wp_loop_rounds 7 ?_;(iterate 7 (rw[rounds_succ];go_wp2_with fail));exact bodyPost_ret (v:= .agg #[.bool false,.bool true,.bool false,.bool true,.bool true,.bool false]) (by simp[results,results66,go_sem]) rfl ⟨rfl,zC⟩
theorem e1b (w:World):Calls prog 66 #[.int .u8 1] w λe w'=>e= .returned (.agg #[.bool true,.bool false,.bool false,.bool false,.bool false,.bool false])/\Below w.heap.size w w':=by
 have q0:bits BinOp.and IntKind.u8 1 1=1:=by decide +kernel
 have q1:bits BinOp.and IntKind.u8 1 2=0:=by decide +kernel
 have q2:bits BinOp.and IntKind.u8 1 4=0:=by decide +kernel
 have q3:bits BinOp.and IntKind.u8 1 8=0:=by decide +kernel
 have q4:bits BinOp.and IntKind.u8 1 16=0:=by decide +kernel
 have q5:bits BinOp.and IntKind.u8 1 32=0:=by decide +kernel
 go_enter func66,ntmps66;go_wp2_with fail;refine wp_loop_rounds 7 ?_;(iterate 7 (rw[rounds_succ];go_wp2_with fail));exact bodyPost_ret (v:= .agg #[.bool true,.bool false,.bool false,.bool false,.bool false,.bool false]) (by simp[results,results66,go_sem]) rfl ⟨rfl,zC⟩
theorem e1d (w:World):Calls prog 66 #[.int .u8 3] w λe w'=>e= .returned (.agg #[.bool true,.bool true,.bool false,.bool false,.bool false,.bool false])/\Below w.heap.size w w':=by
 have q0:bits BinOp.and IntKind.u8 3 1=1:=by decide +kernel
 have q1:bits BinOp.and IntKind.u8 3 2=2:=by decide +kernel
 have q2:bits BinOp.and IntKind.u8 3 4=0:=by decide +kernel
 have q3:bits BinOp.and IntKind.u8 3 8=0:=by decide +kernel
 have q4:bits BinOp.and IntKind.u8 3 16=0:=by decide +kernel
 have q5:bits BinOp.and IntKind.u8 3 32=0:=by decide +kernel
 go_enter func66,ntmps66;go_wp2_with fail;refine wp_loop_rounds 7 ?_;(iterate 7 (rw[rounds_succ];go_wp2_with fail));exact bodyPost_ret (v:= .agg #[.bool true,.bool true,.bool false,.bool false,.bool false,.bool false]) (by simp[results,results66,go_sem]) rfl ⟨rfl,zC⟩
theorem e1e (w:World):Calls prog 66 #[.int .u8 9] w λe w'=>e= .returned (.agg #[.bool true,.bool false,.bool false,.bool true,.bool false,.bool false])/\Below w.heap.size w w':=by
 have q0:bits BinOp.and IntKind.u8 9 1=1:=by decide +kernel
 have q1:bits BinOp.and IntKind.u8 9 2=0:=by decide +kernel
 have q2:bits BinOp.and IntKind.u8 9 4=0:=by decide +kernel
 have q3:bits BinOp.and IntKind.u8 9 8=8:=by decide +kernel
 have q4:bits BinOp.and IntKind.u8 9 16=0:=by decide +kernel
 have q5:bits BinOp.and IntKind.u8 9 32=0:=by decide +kernel
 go_enter func66,ntmps66;go_wp2_with fail;refine wp_loop_rounds 7 ?_;(iterate 7 (rw[rounds_succ];go_wp2_with fail));exact bodyPost_ret (v:= .agg #[.bool true,.bool false,.bool false,.bool true,.bool false,.bool false]) (by simp[results,results66,go_sem]) rfl ⟨rfl,zC⟩
theorem d9o (w:World):Calls prog 66 #[.int .u8 25] w λe w'=>e= .returned (.agg #[.bool true,.bool false,.bool false,.bool true,.bool true,.bool false])/\Below w.heap.size w w':=by
 have q0:bits BinOp.and IntKind.u8 25 1=1:=by decide +kernel
 have q1:bits BinOp.and IntKind.u8 25 2=0:=by decide +kernel
 have q2:bits BinOp.and IntKind.u8 25 4=0:=by decide +kernel
 have q3:bits BinOp.and IntKind.u8 25 8=8:=by decide +kernel
 have q4:bits BinOp.and IntKind.u8 25 16=16:=by decide +kernel
 have q5:bits BinOp.and IntKind.u8 25 32=0:=by decide +kernel
 go_enter func66,ntmps66;go_wp2_with fail;refine wp_loop_rounds 7 ?_;(iterate 7 (rw[rounds_succ];go_wp2_with fail));exact bodyPost_ret (v:= .agg #[.bool true,.bool false,.bool false,.bool true,.bool true,.bool false]) (by simp[results,results66,go_sem]) rfl ⟨rfl,zC⟩
theorem d9p (w:World):Calls prog 66 #[.int .u8 17] w λe w'=>e= .returned (.agg #[.bool true,.bool false,.bool false,.bool false,.bool true,.bool false])/\Below w.heap.size w w':=by
 have q0:bits BinOp.and IntKind.u8 17 1=1:=by decide +kernel
 have q1:bits BinOp.and IntKind.u8 17 2=0:=by decide +kernel
 have q2:bits BinOp.and IntKind.u8 17 4=0:=by decide +kernel
 have q3:bits BinOp.and IntKind.u8 17 8=0:=by decide +kernel
 have q4:bits BinOp.and IntKind.u8 17 16=16:=by decide +kernel
 have q5:bits BinOp.and IntKind.u8 17 32=0:=by decide +kernel
 go_enter func66,ntmps66;go_wp2_with fail;refine wp_loop_rounds 7 ?_;(iterate 7 (rw[rounds_succ];go_wp2_with fail));exact bodyPost_ret (v:= .agg #[.bool true,.bool false,.bool false,.bool false,.bool true,.bool false]) (by simp[results,results66,go_sem]) rfl ⟨rfl,zC⟩
theorem d9q (w:World):Calls prog 66 #[.int .u8 11] w λe w'=>e= .returned (.agg #[.bool true,.bool true,.bool false,.bool true,.bool false,.bool false])/\Below w.heap.size w w':=by
 have q0:bits BinOp.and IntKind.u8 11 1=1:=by decide +kernel
 have q1:bits BinOp.and IntKind.u8 11 2=2:=by decide +kernel
 have q2:bits BinOp.and IntKind.u8 11 4=0:=by decide +kernel
 have q3:bits BinOp.and IntKind.u8 11 8=8:=by decide +kernel
 have q4:bits BinOp.and IntKind.u8 11 16=0:=by decide +kernel
 have q5:bits BinOp.and IntKind.u8 11 32=0:=by decide +kernel
 go_enter func66,ntmps66;go_wp2_with fail;refine wp_loop_rounds 7 ?_;(iterate 7 (rw[rounds_succ];go_wp2_with fail));exact bodyPost_ret (v:= .agg #[.bool true,.bool true,.bool false,.bool true,.bool false,.bool false]) (by simp[results,results66,go_sem]) rfl ⟨rfl,zC⟩
theorem d9r (w:World):Calls prog 66 #[.int .u8 27] w λe w'=>e= .returned (.agg #[.bool true,.bool true,.bool false,.bool true,.bool true,.bool false])/\Below w.heap.size w w':=by
 have q0:bits BinOp.and IntKind.u8 27 1=1:=by decide +kernel
 have q1:bits BinOp.and IntKind.u8 27 2=2:=by decide +kernel
 have q2:bits BinOp.and IntKind.u8 27 4=0:=by decide +kernel
 have q3:bits BinOp.and IntKind.u8 27 8=8:=by decide +kernel
 have q4:bits BinOp.and IntKind.u8 27 16=16:=by decide +kernel
 have q5:bits BinOp.and IntKind.u8 27 32=0:=by decide +kernel
 go_enter func66,ntmps66;go_wp2_with fail;refine wp_loop_rounds 7 ?_;(iterate 7 (rw[rounds_succ];go_wp2_with fail));exact bodyPost_ret (v:= .agg #[.bool true,.bool true,.bool false,.bool true,.bool true,.bool false]) (by simp[results,results66,go_sem]) rfl ⟨rfl,zC⟩
theorem d9s (w:World):Calls prog 66 #[.int .u8 19] w λe w'=>e= .returned (.agg #[.bool true,.bool true,.bool false,.bool false,.bool true,.bool false])/\Below w.heap.size w w':=by
 have q0:bits BinOp.and IntKind.u8 19 1=1:=by decide +kernel
 have q1:bits BinOp.and IntKind.u8 19 2=2:=by decide +kernel
 have q2:bits BinOp.and IntKind.u8 19 4=0:=by decide +kernel
 have q3:bits BinOp.and IntKind.u8 19 8=0:=by decide +kernel
 have q4:bits BinOp.and IntKind.u8 19 16=16:=by decide +kernel
 have q5:bits BinOp.and IntKind.u8 19 32=0:=by decide +kernel
 go_enter func66,ntmps66;go_wp2_with fail;refine wp_loop_rounds 7 ?_;(iterate 7 (rw[rounds_succ];go_wp2_with fail));exact bodyPost_ret (v:= .agg #[.bool true,.bool true,.bool false,.bool false,.bool true,.bool false]) (by simp[results,results66,go_sem]) rfl ⟨rfl,zC⟩
theorem d9t (w:World):Calls prog 66 #[.int .u8 10] w λe w'=>e= .returned (.agg #[.bool false,.bool true,.bool false,.bool true,.bool false,.bool false])/\Below w.heap.size w w':=by
 have q0:bits BinOp.and IntKind.u8 10 1=0:=by decide +kernel
 have q1:bits BinOp.and IntKind.u8 10 2=2:=by decide +kernel
 have q2:bits BinOp.and IntKind.u8 10 4=0:=by decide +kernel
 have q3:bits BinOp.and IntKind.u8 10 8=8:=by decide +kernel
 have q4:bits BinOp.and IntKind.u8 10 16=0:=by decide +kernel
 have q5:bits BinOp.and IntKind.u8 10 32=0:=by decide +kernel
 go_enter func66,ntmps66;go_wp2_with fail;refine wp_loop_rounds 7 ?_;(iterate 7 (rw[rounds_succ];go_wp2_with fail));exact bodyPost_ret (v:= .agg #[.bool false,.bool true,.bool false,.bool true,.bool false,.bool false]) (by simp[results,results66,go_sem]) rfl ⟨rfl,zC⟩
theorem d7w (c:Nat)(h:c=60\/c=26\/c=1\/c=3\/c=9\/c=25\/c=17\/c=11\/c=27\/c=19\/c=10)(w:World):Calls prog 66 #[.int .u8 c] w λe w'=>e= .returned (.agg #[.bool (c4m c 0),.bool (c4m c 1),.bool (c4m c 2),.bool (c4m c 3),.bool (c4m c 4),.bool (c4m c 5)])/\Below w.heap.size w w':=by
 rcases h with rfl|rfl|rfl|rfl|rfl|rfl|rfl|rfl|rfl|rfl|rfl
 ·exact d9m w
 ·exact d9n w
 ·exact e1b w
 ·exact e1d w
 ·exact e1e w
 ·exact d9o w
 ·exact d9p w
 ·exact d9q w
 ·exact d9r w
 ·exact d9s w
 ·exact d9t w
end
section
open Go.RowKit Go.Shelf
attribute [local go_sem] Oper.semAt_some
@[local simp] theorem l0:b7o[0]? =some (.int .i64 1):=rfl
@[local simp] theorem l1:b7o[1]? =some (.int .i64 3):=rfl
@[local simp] theorem l2:b7o[2]? =some (.int .i64 9):=rfl
@[local simp] theorem l3:b7o[3]? =some (.int .i64 25):=rfl
@[local simp] theorem l4:b7o[4]? =some (.int .i64 17):=rfl
@[local simp] theorem l5:b7o[5]? =some (.int .i64 11):=rfl
@[local simp] theorem l6:b7o[6]? =some (.int .i64 27):=rfl
@[local simp] theorem l7:b7o[7]? =some (.int .i64 19):=rfl
@[local simp] theorem l8:b7o[8]? =some (.int .i64 10):=rfl
@[local simp] theorem l9:b7o[9]? =some (.int .i64 26):=rfl
attribute [local go_sem] l0 l1 l2 l3 l4 l5 l6 l7 l8 l9
end
end Go.Proofs.YtfocdbjceedagaaGreatDoor
namespace Go.Proofs.YtfocdbjceedagaaGreatDoor
open Go.RowKit Go.Shelf
attribute [local go_sem] Oper.semAt_some
attribute [local go_sem ↓] Go.wp_at_zero Go.wp_at_succ
structure Near5 (p:a0m):Prop where
 x0 : -100000<=p.1
 x1:p.1<=100000
 y0 : -100000<=p.2
 y1:p.2<=100000
structure LN (w:World)(B2 B3 base:Nat)(ax ay bx by_:Int)(lv:Value)(l:List a0m)(W:World):Prop where
 k2:Blk W B2 #[.int .i64 ax,.int .i64 ay] 26
 k3:Blk W B3 #[.int .i64 bx,.int .i64 by_] 26
 l2:B2<base
 l3:B3<base
 lw:w.heap.size<=base
 row:W.ownsRow base 26 2 lv l.length (l.flatMap a5u)
 below:Below w.heap.size w W
 lb:base<=W.heap.size
section
variable {w W W':World}{B2 B3 base:Nat}{ax ay bx by_:Int}{lv:Value}{l:List a0m}
theorem LN.grown (h:LN w B2 B3 base ax ay bx by_ lv l W)(hg:W.grownBy W' none):LN w B2 B3 base ax ay bx by_ lv l W' :=
 ⟨h.k2.kept hg vM,h.k3.kept hg vM,h.l2,h.l3,h.lw,by
  refine h.row.kept hg ?_;rcases h.row.2 with⟨rfl,_⟩|⟨g,cap,cur,rfl,_⟩
  ·exact .inl rfl
  ·exact .inr (λe=>by cases e),h.below.grown hg h.below.size (λk e=>by cases e),Nat.le_trans h.lb hg.size⟩
theorem LN.alloc (h:LN w B2 B3 base ax ay bx by_ lv l W)(o:Obj):LN w B2 B3 base ax ay bx by_ lv l (W.alloc o):=h.grown (World.grownBy_alloc W o none)
theorem LN.b0 (h:LN w B2 B3 base ax ay bx by_ lv l W):W.cell? ⟨B3,0,none⟩=some (.int .i64 bx):=h.k3.cell 0
theorem LN.b1 (h:LN w B2 B3 base ax ay bx by_ lv l W):W.cell? ⟨B3,1,none⟩=some (.int .i64 by_):=h.k3.cell 1
end
def FLine (B2 B3:Nat)(u6:Value)(t N ax ay bx by_ qx qy:Int)(i:Nat)(v:Value)(w:World):Prop :=
 match i with
 |0=>v=u6
 |1=>v= .pointer (some ⟨B2,0,none⟩)
 |2=>v= .int .i64 ax
 |3=>v= .int .i64 t
 |4=>v= .int .i64 (2*t)
 |5=>v= .pointer (some ⟨B3,0,none⟩)
 |6=>v= .int .i64 bx
 |7=>v= .pointer (some ⟨B2,0,none⟩)
 |8=>v= .int .i64 ax
 |9=>v= .int .i64 (bx-ax)
 |10=>v= .int .i64 ((2*t)*(bx-ax))
 |11=>v= .int .i64 N
 |12=>v= .int .i64 (((2*t)*(bx-ax))+N)
 |13=>v= .int .i64 N
 |14=>v= .int .i64 (2*N)
 |15=>v= .int .i64 qx
 |16=>v= .int .i64 (ax+qx)
 |17=>v= .pointer (some ⟨B2,1,none⟩)
 |18=>v= .int .i64 ay
 |19=>v= .int .i64 t
 |20=>v= .int .i64 (2*t)
 |21=>v= .pointer (some ⟨B3,1,none⟩)
 |22=>v= .int .i64 by_
 |23=>v= .pointer (some ⟨B2,1,none⟩)
 |24=>v= .int .i64 ay
 |25=>v= .int .i64 (by_-ay)
 |26=>v= .int .i64 ((2*t)*(by_-ay))
 |27=>v= .int .i64 N
 |28=>v= .int .i64 (((2*t)*(by_-ay))+N)
 |29=>v= .int .i64 N
 |30=>v= .int .i64 (2*N)
 |31=>v= .int .i64 qy
 |32=>v= .int .i64 (ay+qy)
 |33=>v= .agg #[.int .i64 (ax+qx),.int .i64 (ay+qy)]
 |34=>∃L,v= .slice (some ⟨L,0,none⟩) 1 1/\Blk w L #[.int .i64 (ax+qx),.int .i64 (ay+qy)] 26
 |_=>False
theorem FLine.kept {B2 B3:Nat}{u6:Value}{t N ax ay bx by_ qx qy:Int}{i:Nat}{v:Value}{w w':World}(h:FLine B2 B3 u6 t N ax ay bx by_ qx qy i v w)(hg:w.grownBy w' none):FLine B2 B3 u6 t N ax ay bx by_ qx qy i v w':=by
 unfold FLine at *;split at h
 all_goals first|exact h|(obtain⟨L,h1,h2⟩:=h;exact⟨L,h1,h2.kept hg vM⟩)
end Go.Proofs.YtfocdbjceedagaaGreatDoor
namespace Go.Proofs.YtfocdbjceedagaaGreatDoor
open Go.RowKit Go.Shelf
attribute [local go_sem] Oper.semAt_some
attribute [local go_sem ↓] Go.wp_at_zero Go.wp_at_succ
section
variable {w W W':World}{B2 B3 base:Nat}{ax ay bx by_:Int}{lv:Value}{l:List a0m}
end
end Go.Proofs.YtfocdbjceedagaaGreatDoor
namespace Go.Proofs.YtfocdbjceedagaaGreatDoor
open Tryz
section
open Go.RowKit Go.Shelf Go.Deep
attribute [local go_sem] Oper.semAt_some
attribute [local go_sem ↓] Go.wp_at_zero Go.wp_at_succ
structure Lead (l:List Dt)(x:Dt)(k:Nat):Prop where
 le:k<=l.length
 lt:∀j,(h:j<k)->ltS ((l[j]'(Nat.lt_of_lt_of_le h le)).x,(l[j]'(Nat.lt_of_lt_of_le h le)).y) (x.x,x.y)=true
theorem Lead.zero (l:List Dt)(x:Dt):Lead l x 0:=⟨Nat.zero_le _,λj h=>absurd h oM⟩
end
section
open Go Go.RowKit Go.Shelf Go.Lib Go.Sort
/-! ### the order of places -/
theorem c8t (a b:Pc):ltOf a1j a b=true↔(b.wt<a.wt\/(a.wt=b.wt/\a.id<b.id)):=by
 unfold ltOf a1j compareInt;simp only[decide_eq_true_eq];split <;> (try split at *) <;> (try split at *) <;> (try split at *) <;> omega
theorem c8u (a b:Pc):ltOf a1j a b=false↔¬(b.wt<a.wt\/(a.wt=b.wt/\a.id<b.id)):=by
 rw[<-c8t]
 cases ltOf a1j a b <;> simp
theorem swoP :SWO (ltOf a1j):=by
 refine⟨λx=> ?_,λx y z h1 h2=> ?_,λx y z h1 h2=> ?_⟩
 ·rw[c8u];omega
 ·rw[c8t]at *;omega
 ·rw[c8u]at *;omega
theorem b2k {α:Type}(d:Array α)(n:Nat)(h:n=d.size):(d.extract 0 n)=d:=by
 subst h;simp
theorem a1c (l:List Pc):(a0t l).Perm l:=by
 have:=(insertionSort_holds (lt:=ltOf a1j) swoP l.toArray 0 l.length (Nat.zero_le _) vM).1;obtain⟨h1,-,h3⟩:=this;rw[b2k _ _ (by rw[h1];simp),b2k _ _ vM]at h3;exact h3
end
section
open Go.RowKit Go.Shelf
theorem a9j {k:Int}{en:List (a0m×Int)}{d:Dt}(h:d∈a1h k en):(d.x,d.y)∈en.map (·.1):=by
 unfold a1h at h;obtain⟨p,hp,rfl⟩:=List.mem_map.1 h;exact(List.mergeSort_perm _ _).mem_iff.1 hp
def Ent (s:Sh)(en:List (a0m×Int)):Prop:=∃cs:List (a0m×Int),en=cs.foldl (a9a s) []
theorem Ent.nil (s:Sh):Ent s []:=⟨[],rfl⟩
theorem Ent.put {s:Sh}{en:List (a0m×Int)}(h:Ent s en)(c:a0m×Int):Ent s (a9a s en c):=by
 obtain⟨cs,rfl⟩:=h;exact⟨cs++[c],by rw[List.foldl_append];rfl⟩
theorem Ent.nodup {s:Sh}{en:List (a0m×Int)}(h:Ent s en):(en.map (·.1)).Nodup:=by
 obtain⟨cs,rfl⟩:=h;exact a9i s cs [] vM
theorem Ent.len {s:Sh}{en:List (a0m×Int)}(h:Ent s en)(hs:OkS s):(a1h 2 en).length<=6480:=by
 rw[a4i];refine b8q hs h.nodup ?_;obtain⟨cs,rfl⟩:=h;exact b2h s cs [] vM
structure RO (w:World)(s:Sh)(B2 base:Nat)(v:Value)(en:List (a0m×Int))(W:World):Prop where
 sheet:Blk W B2 #[.int .i64 s.ax,.int .i64 s.ay,.int .i64 s.st,.int .i64 s.w,.int .i64 s.h,.int .i64 s.g] 28
 far:B2<base
 row:W.ownsRow base 54 4 v (a1h 2 en).length ((a1h 2 en).flatMap a2c)
 wb:w.heap.size<=base
 below:Below w.heap.size w W
 lb:base<=W.heap.size
 ent:Ent s en
section
variable {w W W':World}{s:Sh}{B2 base Bw:Nat}{v v':Value}{en en':List (a0m×Int)}{c:Array Value}{lv:Value}{l:List a0m}
theorem RO.grown (h:RO w s B2 base v en W)(hg:W.grownBy W' none):RO w s B2 base v en W' :=
 ⟨h.sheet.kept hg vM,h.far,a5c h.row hg vM,h.wb,h.below.grown hg h.below.size (λk e=>by cases e),Nat.le_trans h.lb hg.size,h.ent⟩
theorem RO.alloc (h:RO w s B2 base v en W)(o:Obj):RO w s B2 base v en (W.alloc o):=h.grown (World.grownBy_alloc W o none)
theorem RO.put (h:RO w s B2 base v en W)(hg:W.grownBy W' v.ownBlock)(hrow:W'.ownsRow base 54 4 v' (a1h 2 en').length ((a1h 2 en').flatMap a2c))(he:Ent s en'):RO w s B2 base v' en' W' :=
 ⟨h.sheet.kept hg (λe=>by have:=(h.row.lt _ e).1;have:=h.far;omega),h.far,hrow,h.wb,h.below.grown hg h.below.size (λk e=>by have:=(h.row.lt _ e).1;have:=h.wb;omega),Nat.le_trans h.lb hg.size,he⟩
structure RB (w:World)(s:Sh)(B2 base Bw:Nat)(c:Array Value)(v:Value)(en:List (a0m×Int))(W:World):Prop where
 out:RO w s B2 base v en W
 box:Blk W Bw c 149
theorem RB.grown (h:RB w s B2 base Bw c v en W)(hg:W.grownBy W' none):RB w s B2 base Bw c v en W':=⟨h.out.grown hg,h.box.kept hg vM⟩
theorem RB.put (h:RB w s B2 base Bw c v en W)(hg:W.grownBy W' v.ownBlock)(hrow:W'.ownsRow base 54 4 v' (a1h 2 en').length ((a1h 2 en').flatMap a2c))(he:Ent s en'):RB w s B2 base Bw c v' en' W' :=
 ⟨h.out.put hg hrow he,h.box.kept hg (b8t h.out.row h.box jM)⟩
structure RL (w:World)(s:Sh)(B2 base Bw:Nat)(c:Array Value)(lv:Value)(l:List a0m)(v:Value)(en:List (a0m×Int))(W:World):Prop where
 way:RB w s B2 base Bw c v en W
 line:W.ownsRow base 26 2 lv l.length (l.flatMap a5u)
theorem RL.grown (h:RL w s B2 base Bw c lv l v en W)(hg:W.grownBy W' none):RL w s B2 base Bw c lv l v en W':=⟨h.way.grown hg,a5c h.line hg vM⟩
theorem RL.put (h:RL w s B2 base Bw c lv l v en W)(hg:W.grownBy W' v.ownBlock)(hrow:W'.ownsRow base 54 4 v' (a1h 2 en').length ((a1h 2 en').flatMap a2c))(he:Ent s en'):RL w s B2 base Bw c lv l v' en' W' :=
 ⟨h.way.put hg hrow he,a5c h.line hg (b2j h.line h.way.out.row jM)⟩
end
def a6k :List Dt->Dt->List Dt
 |[],x=>[x]
 |d::l,x=>if ltS (d.x,d.y) (x.x,x.y)then d::a6k l x else if(d.x,d.y)=(x.x,x.y)then(if x.i<d.i then⟨d.x,d.y,d.k,x.i⟩else d)::l else x::d::l
def c8v :List a0m->a0m->List a0m
 |[],p=>[p]
 |q::ks,p=>if ltS q p then q::c8v ks p else if q=p then q::ks else p::q::ks
theorem a3z (p:a0m):ltS p p=false:=by simp[ltS]
theorem b2l {p q r:a0m}(h1:ltS p q=true)(h2:ltS q r=true):ltS p r=true:=by simp[ltS]at *;omega
theorem c1u {p q:a0m}(h1:ltS p q=false)(h2:¬p=q):ltS q p=true:=by
 obtain⟨a,b⟩:=p;obtain⟨c,d⟩:=q;simp[ltS]at *;omega
theorem b5y (p q:a0m):∀ks:List a0m,q∈c8v ks p↔q=p\/q∈ks
 |[]=>by simp[c8v]
 |a::ks=>by
  unfold c8v;split
  ·simp only[List.mem_cons,b5y p q ks]
   constructor
   ·rintro(h|h|h) <;> simp[h]
   ·rintro(h|h|h) <;> simp[h]
  ·split
   ·rename_i h;subst h;simp
   ·simp
theorem b2m (p:a0m):∀ {ks:List a0m},ks.Pairwise (λa b=>ltS a b=true)->(c8v ks p).Pairwise (λa b=>ltS a b=true)
 |[],_=>by simp[c8v]
 |a::ks,h=>by
  rw[List.pairwise_cons]at h;unfold c8v;split
  ·rename_i h1
   rw[List.pairwise_cons];refine⟨λb hb=> ?_,b2m p h.2⟩;rcases(b5y p b ks).1 hb with rfl|hb
   ·exact h1
   ·exact h.1 b hb
  ·rename_i h1
   split
   ·exact List.pairwise_cons.2 h
   ·rename_i h2
    have h3:=c1u (by simpa using h1) h2;rw[List.pairwise_cons];refine⟨λb hb=> ?_,List.pairwise_cons.2 h⟩;rcases List.mem_cons.1 hb with rfl|hb
    ·exact h3
    ·exact b2l h3 (h.1 b hb)
def mkD (k:Int)(f:a0m->Int)(p:a0m):Dt:=⟨p.1,p.2,k,f p⟩
theorem c4n (k:Int)(f f':a0m->Int)(p:a0m)(id:Int):∀(ks:List a0m),ks.Pairwise (λa b=>ltS a b=true)->(∀q,q≠p->f' q=f q)->(p∈ks->f' p=if id<f p then id else f p)->(p∉ks->f' p=id) ->
 a6k (ks.map (mkD k f)) ⟨p.1,p.2,k,id⟩=(c8v ks p).map (mkD k f')
 |[],_,_,_,h3=>by
  simp only[List.map_nil,a6k,c8v,List.map_cons];unfold mkD;rw[h3 vM]
 |a::ks,hs,h1,h2,h3=>by
  rw[List.pairwise_cons]at hs;show(if ltS a p=true then mkD k f a::a6k (ks.map (mkD k f)) ⟨p.1,p.2,k,id⟩else if a=p then(if id<f a then⟨a.1,a.2,k,id⟩else mkD k f a)::ks.map (mkD k f)else⟨p.1,p.2,k,id⟩::mkD k f a::ks.map (mkD k f))=(if ltS a p=true then a::c8v ks p else if a=p then a::ks else p::a::ks).map (mkD k f');by_cases hlt:ltS a p=true
  ·rw[if_pos hlt,if_pos hlt,List.map_cons]
   have hne:a≠p:=λe=>by subst e;rw[a3z]at hlt;cases hlt
   rw[c4n k f f' p id ks hs.2 h1 (λh=>h2 (List.mem_cons_of_mem _ h)) (λh=>h3 (λe=>by rcases List.mem_cons.1 e with e|e;exact hne e.symm;exact h e))];congr 1;unfold mkD;rw[h1 a hne]
  ·rw[if_neg hlt,if_neg hlt]
   by_cases he:a=p
   ·subst he
    rw[if_pos rfl,if_pos rfl,List.map_cons];have hrest:ks.map (mkD k f)=ks.map (mkD k f'):=List.map_congr_left λq hq=>by
     have hne:q≠a:=λe=>by have:=hs.1 q hq;rw[e,a3z]at this;cases this
     unfold mkD;rw[h1 q hne]
    rw[hrest];congr 1;have h4:=h2 List.mem_cons_self;unfold mkD;split
    ·rename_i hid;rw[if_pos hid]at h4;rw[h4]
    ·rename_i hid;rw[if_neg hid]at h4;rw[h4]
   ·have h5:=c1u (by simpa using hlt) he
    rw[if_neg he,if_neg he,List.map_cons,List.map_cons];have hni:p∉a::ks:=λe=>by
     rcases List.mem_cons.1 e with e|e
     ·exact he e.symm
     ·have:=b2l h5 (hs.1 p e);rw[a3z]at this;cases this
    have hne:∀q∈a::ks,q≠p:=λq hq e=>hni (e▸hq)
    have hrest:ks.map (mkD k f)=ks.map (mkD k f'):=List.map_congr_left λq hq=>by
     unfold mkD;rw[h1 q (hne q (List.mem_cons_of_mem _ hq))]
    rw[hrest];unfold mkD;rw[h3 hni,h1 a (hne a List.mem_cons_self)]
theorem b8u {en:List (a0m×Int)}(hn:(en.map (·.1)).Nodup):(a2o en).Pairwise (λa b=>ltS a b=true):=by
 have h1:(a2o en).Pairwise (λa b=>leS a b=true):=List.pairwise_mergeSort b7w b7x _;have h2:(a2o en).Nodup:=(List.mergeSort_perm _ _).nodup_iff.2 hn;rw[List.nodup_iff_pairwise_ne]at h2;refine(h1.and h2).imp ?_;rintro a b⟨ha,hb⟩;unfold leS at ha;exact c1u (by simpa using ha) (λe=>hb e.symm)
theorem b2n {en:List (a0m×Int)}{p:a0m}:p∈a2o en↔(a7a en p).isSome=true:=by
 rw[<-a8j,a2h];exact(List.mergeSort_perm _ _).mem_iff
theorem b4n (k:Int)(s:Sh)(en:List (a0m×Int))(c:a0m×Int)(hn:(en.map (·.1)).Nodup) :
 a1h k (a9a s en c)=if onS s c.1.1 c.1.2 then a6k (a1h k en) ⟨c.1.1,c.1.2,k,c.2⟩else a1h k en:=by
 obtain⟨p,id⟩:=c
 cases hon:onS s p.1 p.2 with
 |false =>
  rw[if_neg vM];unfold a9a c8i;simp[hon]
 |true =>
  rw[if_pos rfl];have hid:∀q,a7a (a9a s en (p,id)) q=if q=p then some (d2k id (a7a en p))else a7a en q:=λq=>by
   unfold a9a;rw[c8r];simp[hon]
  have hks:a2o (a9a s en (p,id))=c8v (a2o en) p:=by
   have hs:=b2m p (b8u hn);refine(b4d (b4c (a9h s en (p,id) hn) ?_ (λq=> ?_)) ?_).symm
   ·rw[List.nodup_iff_pairwise_ne]
    exact hs.imp λ{a b} h e=>by subst e;rw[a3z]at h;cases h
   ·rw[b5y,b2n,<-a2h,a8j,hid]
    split
    ·rename_i h;simp[h]
    ·rename_i h;simp[h]
   ·refine hs.imp λ{a b} h=> ?_
    unfold leS
    cases hb:ltS b a with
    |false=>rfl
    |true=>have:=b2l h hb;rw[a3z]at this;cases this
  unfold a1h;rw[hks];refine(c4n k (λq=>(a7a en q).getD 0) (λq=>(a7a (a9a s en (p,id)) q).getD 0) p id (a2o en) (b8u hn) (λq hq=> ?_) (λh=> ?_) (λh=> ?_)).symm
  ·simp only[hid,if_neg hq]
  ·simp only[hid,if_true,Option.getD_some]
   rw[b2n]at h
   cases ho:a7a en p with
   |none=>rw[ho]at h;cases h
   |some o=>rfl
  ·simp only[hid,if_true,Option.getD_some]
   rw[b2n]at h
   cases ho:a7a en p with
   |none=>rfl
   |some o=>rw[ho]at h;exact absurd rfl h
def d6b (k:Int)(s:Sh)(cs:List (a0m×Int))(l:List Dt):List Dt:=cs.foldl (λl c=>if onS s c.1.1 c.1.2 then a6k l ⟨c.1.1,c.1.2,k,c.2⟩else l) l
theorem b4o (k:Int)(s:Sh):∀(cs:List (a0m×Int)) (en:List (a0m×Int)),(en.map (·.1)).Nodup->d6b k s cs (a1h k en)=a1h k (cs.foldl (a9a s) en)
 |[],_,_=>rfl
 |c::cs,en,hn=>by
  unfold d6b;rw[List.foldl_cons,List.foldl_cons,<-b4n k s en c hn];exact b4o k s cs _ (a9h s en c hn)
def a3w (i j:Int)(r:Nat->Bool):Nat->List a0m
 |0=>[]
 |k+1=>a3w i j r k++(if r k then [a9f i j k]else [])
def a4l (i j:Int)(k:Nat)(d:Nat->Bool)(l:List a0m):Nat->List a0m
 |0=>l
 |n+1=>a4l i j k d l n++(if d n then [b1a i j k n]else [])
def a2g (i j:Int)(D:Nat->Nat->Bool)(l:List a0m):Nat->List a0m
 |0=>l
 |k+1=>a4l i j k (D k) (a2g i j D l k) 6
def a1r (i j:Int)(r:Nat->Bool)(D:Nat->Nat->Bool)(n:Nat):List a0m:=a2g i j D (a3w i j r 9) n
def d1i (id:Int)(en:List (a0m×Int))(p:a0m):List (a0m×Int):=b5n en p id
theorem c4o (i j id:Int)(r:Nat->Bool):∀k,c8k i j id r k=(a3w i j r k).foldl (d1i id) []
 |0=>rfl
 |k+1=>by
  rw[c8k,a3w,List.foldl_append,<-c4o i j id r k];unfold upE;split <;> rfl
theorem c4p (i j id:Int)(k:Nat)(d:Nat->Bool)(l:List a0m):∀n,d1h i j id k d (l.foldl (d1i id) []) n=(a4l i j k d l n).foldl (d1i id) []
 |0=>rfl
 |n+1=>by
  rw[d1h,a4l,List.foldl_append,<-c4p i j id k d l n];unfold upE;split <;> rfl
theorem b8v (i j id:Int)(D:Nat->Nat->Bool)(l:List a0m):∀n,b1x i j id D (l.foldl (d1i id) []) n=(a2g i j D l n).foldl (d1i id) []
 |0=>rfl
 |n+1=>by rw[b1x,a2g,b8v i j id D l n,c4p]
theorem a9k (i j id:Int)(r:Nat->Bool)(D:Nat->Nat->Bool)(n:Nat):a6e i j id r D n=(a1r i j r D n).foldl (d1i id) []:=by
 unfold a6e a1r;rw[c4o,b8v]
theorem a5d (i j:Int)(r:Nat->Bool):∀k,(a3w i j r k).length<=k
 |0=>yR _
 |k+1=>by
  have:=a5d i j r k;rw[a3w,List.length_append];exact yjs
theorem a9l (i j:Int)(k:Nat)(d:Nat->Bool)(l:List a0m):∀n,(a4l i j k d l n).length<=l.length+n
 |0=>yR _
 |n+1=>by
  have:=a9l i j k d l n;rw[a4l,List.length_append];exact yjs
theorem a4c (i j:Int)(D:Nat->Nat->Bool)(l:List a0m):∀n,(a2g i j D l n).length<=l.length+6*n
 |0=>yR _
 |n+1=>by
  have h1:=a4c i j D l n;have h2:=a9l i j n (D n) (a2g i j D l n) 6;rw[a2g];omega
def c5s (id:Int)(en:List (a0m×Int)):Prop:=∀e∈en,e.2=id
theorem c5t {id:Int}{en:List (a0m×Int)}(h:c5s id en)(p:a0m):c5s id (b5n en p id):=by
 intro e he;unfold b5n at he;split at he
 ·obtain⟨e',he',rfl⟩:=List.mem_map.1 he
  split
  ·rfl
  ·exact h e' he'
 ·rcases List.mem_append.1 he with he|he
  ·exact h e he
  ·rw[List.mem_singleton.1 he]
theorem c8w {id:Int}{en:List (a0m×Int)}(h:c5s id en){p:a0m}(hk:b0q en p=true):b5n en p id=en:=by
 unfold b5n;rw[if_pos hk];conv=>rhs;rw[<-List.map_id en]
 refine List.map_congr_left λe he=> ?_
 split
 ·rename_i hp
  have h1:=h e he;obtain⟨a,b⟩:=e;simp only[beq_iff_eq]at hp h1;rw[<-hp,<-h1];rfl
 ·rfl
theorem d2l {id:Int}{en:List (a0m×Int)}(h:c5s id en){p:a0m}(hk:b0q en p=true):(a7a en p).getD 0=id:=by
 rw[a8j]at hk;obtain⟨x,hx⟩:=Option.isSome_iff_exists.1 hk;rw[hx];unfold a7a at hx;obtain⟨e,he,rfl⟩:=Option.map_eq_some_iff.1 hx;exact h e (List.mem_of_find?_eq_some he)
theorem c8x {s:Sh}{id:Int}{en:List (a0m×Int)}(h:c5s id en){p:a0m}(hon:onS s p.1 p.2=true):b5n en p id=a9a s en (p,id):=by
 unfold a9a c8i;simp only[hon,Bool.true_and]
 cases hk:b0q en p with
 |false=>simp
 |true =>
  rw[d2l h hk,c8w h hk];simp
theorem b8w {s:Sh}{id:Int}:∀(ps:List a0m) (en:List (a0m×Int)),c5s id en->(∀p∈ps,onS s p.1 p.2=true)->ps.foldl (d1i id) en=(ps.map λp=>(p,id)).foldl (a9a s) en
 |[],_,_,_=>rfl
 |p::ps,en,h,hon=>by
  rw[List.foldl_cons,List.map_cons,List.foldl_cons,<-c8x h (hon p List.mem_cons_self)];exact b8w ps _ (c5t h p) (λq hq=>hon q (List.mem_cons_of_mem _ hq))
theorem a8k {id:Int}(q:a0m):∀(ps:List a0m) (en:List (a0m×Int)),q∈(ps.foldl (d1i id) en).map (·.1)↔q∈ps\/q∈en.map (·.1)
 |[],en=>by simp
 |p::ps,en=>by
  rw[List.foldl_cons,a8k q ps];unfold d1i;rw[<-a2h,<-a2h,c4c];simp only[List.mem_cons,Bool.or_eq_true,decide_eq_true_eq];constructor
  ·rintro(h|h|h) <;> simp[h]
  ·rintro((h|h)|h) <;> simp[h]
def b3s (id:Int)(ps:List a0m):List Dt:=ps.foldl (λl p=>a6k l ⟨p.1,p.2,3,id⟩) []
theorem b8x {s:Sh}{id:Int}{ps:List a0m}(hon:∀p∈ps,onS s p.1 p.2=true):b3s id ps=a1h 3 (ps.foldl (d1i id) []):=by
 rw[b8w ps [] (by intro e he;cases he) hon,<-b4o 3 s _ [] vM];unfold b3s d6b;rw[List.foldl_map,show a1h 3 []=[]from by simp[a1h,a2o]];have:∀(ps:List a0m) (l:List Dt),(∀p∈ps,onS s p.1 p.2=true)->ps.foldl (λl p=>a6k l ⟨p.1,p.2,3,id⟩) l=ps.foldl (λl p=>if onS s p.1 p.2=true then a6k l ⟨p.1,p.2,3,id⟩else l) l:=by
  intro ps;induction ps with
  |nil=>intros;rfl
  |cons p ps ih =>
   intro l h;rw[List.foldl_cons,List.foldl_cons,if_pos (h p List.mem_cons_self)];exact ih _ (λq hq=>h q (List.mem_cons_of_mem _ hq))
 exact this ps [] hon
theorem b2o (x:Dt):∀l:List Dt,(a6k l x).length<=l.length+1
 |[]=>yR _
 |d::l=>by
  have:=b2o x l;rw[a6k];split
  ·simp;omega
  ·split <;> simp
theorem a4d (id:Int)(ps:List a0m):(b3s id ps).length<=ps.length:=by
 have h:∀(ps:List a0m) (l:List Dt),(ps.foldl (λl p=>a6k l ⟨p.1,p.2,3,id⟩) l).length<=l.length+ps.length:=by
  intro ps;induction ps with
  |nil=>intro l;exact yR _
  |cons p ps ih =>
   intro l;have h1:=ih (a6k l ⟨p.1,p.2,3,id⟩);have h2:=b2o ⟨p.1,p.2,3,id⟩ l;rw[List.foldl_cons,List.length_cons];omega
 have:=h ps [];simpa[b3s]using this
theorem b5z {s:Sh}{id:Int}{ps:List a0m}(hon:∀p∈ps,onS s p.1 p.2=true):∀d∈b3s id ps,onS s d.x d.y=true:=by
 intro d hd;rw[b8x hon]at hd;have h:=a9j hd;rw[a8k]at h;rcases h with h|h
 ·exact hon _ h
 ·simp at h
end
section
open Go.RowKit Go.Shelf
attribute [local go_sem] Oper.semAt_some
attribute [local go_sem ↓] Go.wp_at_zero Go.wp_at_succ
theorem b8y (s:ByteArray)(hd:d5v s):∀n,n<=s.size->∀c∈a7z s n,c.toNat=60\/c.toNat=26\/c.toNat=1\/c.toNat=3\/c.toNat=9\/c.toNat=25\/c.toNat=17\/c.toNat=11\/c.toNat=27\/c.toNat=19\/c.toNat=10
 |0,_,c,hc=>by cases hc
 |n+1,h,c,hc=>by
  unfold a7z at hc;rcases List.mem_append.1 hc with hc|hc
  ·split at hc
   ·rw[List.mem_singleton.1 hc]
    exact .inl rfl
   ·exact b8y s hd n oM c hc
  ·rw[List.mem_singleton.1 hc]
   obtain⟨h0,h1⟩:=hd n oM;have hg:s[n]! =s[n]'(by omega):=getElem!_pos s n oM;rw[hg];obtain⟨k,hk⟩:=zE ((s[n]'(by omega)).toNat);rw[hk]at h0 h1 ⊢;rcases(show k=48\/k=49\/k=50\/k=51\/k=52\/k=53\/k=54\/k=55\/k=56\/k=57 from oM)with rfl|rfl|rfl|rfl|rfl|rfl|rfl|rfl|rfl|rfl <;> decide
def a1a (n:Nat):ByteArray:=⟨(a7z (a7c n) (a7c n).size).toArray⟩
theorem a7p (n:Nat):(a1a n).size=(a7z (a7c n) (a7c n).size).length:=by
 show(a7z (a7c n) (a7c n).size).toArray.size=_;simp
theorem b2p (n k:Nat)(hk:k<(a1a n).size):((a1a n)[k]'hk).toNat=60\/((a1a n)[k]'hk).toNat=26\/((a1a n)[k]'hk).toNat=1\/((a1a n)[k]'hk).toNat=3\/((a1a n)[k]'hk).toNat=9\/((a1a n)[k]'hk).toNat=25\/((a1a n)[k]'hk).toNat=17\/((a1a n)[k]'hk).toNat=11\/((a1a n)[k]'hk).toNat=27\/((a1a n)[k]'hk).toNat=19\/((a1a n)[k]'hk).toNat=10:=by
 have hl:k<(a7z (a7c n) (a7c n).size).length:=by rw[<-a7p];exact hk
 exact b8y (a7c n) (b2a n) _ (yR _) _ (List.getElem_mem hl)
theorem a8l (n:Nat)(h:n<=999):(a1a n).size<=4:=by
 have h1:=b1c (a7c n) (a7c n).size;have h2:=a2z 2 n oM;rw[a7p];rw[a4z]at h1 ⊢;omega
def a3f (n k q:Nat):Bool:=c4m ((a1a n)[k]!).toNat q
theorem a4m (n k:Nat)(hk:k<(a1a n).size)(q:Nat):a3f n k q=c4m ((a1a n)[k]'hk).toNat q:=by
 unfold a3f;rw[getElem!_pos (a1a n) k hk]
structure PX (s:Sh)(pl:Array Value)(w:World)(B3 B4 base:Nat)(lv:Value)(l:List a0m)(W:World):Prop where
 sheet:Blk W B3 (shC s) 28
 place:Blk W B4 pl 66
 l3:B3<base
 l4:B4<base
 lw:w.heap.size<=base
 row:W.ownsRow base 26 2 lv l.length (l.flatMap a5u)
 below:Below w.heap.size w W
 lb:base<=W.heap.size
section
variable {s:Sh}{pl:Array Value}{w W W':World}{B3 B4 base:Nat}{lv:Value}{l:List a0m}
theorem PX.grown (h:PX s pl w B3 B4 base lv l W)(hg:W.grownBy W' none):PX s pl w B3 B4 base lv l W' :=
 ⟨h.sheet.kept hg vM,h.place.kept hg vM,h.l3,h.l4,h.lw,a5c h.row hg vM,h.below.grown hg h.below.size (λk e=>by cases e),Nat.le_trans h.lb hg.size⟩
theorem PX.alloc (h:PX s pl w B3 B4 base lv l W)(o:Obj):PX s pl w B3 B4 base lv l (W.alloc o):=h.grown (World.grownBy_alloc W o none)
theorem PX.up (h:PX s pl w B3 B4 base lv l W)(hb:Below W.heap.size W W'):PX s pl w B3 B4 base lv l W':=h.grown (a0s hb)
end
structure PY (s:Sh)(pl:Array Value)(w:World)(B3 B4 base:Nat)(Bd:Nat)(d:Nat->Bool)(lv:Value)(l:List a0m)(W:World):Prop where
 px:PX s pl w B3 B4 base lv l W
 box:Blk W Bd #[.bool (d 0),.bool (d 1),.bool (d 2),.bool (d 3),.bool (d 4),.bool (d 5)] 126
theorem PY.cell {s:Sh}{pl:Array Value}{w W:World}{B3 B4 base Bd:Nat}{d:Nat->Bool}{lv:Value}{l:List a0m}(h:PY s pl w B3 B4 base Bd d lv l W)(n:Nat)(hn:n<6):W.cell? ⟨Bd,n,none⟩=some (.bool (d n)):=by
 rw[h.box.cell];match n,hn with
 |0,_=>rfl
 |1,_=>rfl
 |2,_=>rfl
 |3,_=>rfl
 |4,_=>rfl
 |5,_=>rfl
structure PZ (s:Sh)(pl:Array Value)(w:World)(B3 B4 base:Nat)(lv:Value)(l:List a0m)(v:Value)(ds:List Dt)(W:World):Prop where
 px:PX s pl w B3 B4 base lv l W
 out:W.ownsRow base 54 4 v ds.length (ds.flatMap a2c)
section
variable {s:Sh}{pl:Array Value}{w W W':World}{B3 B4 base:Nat}{lv:Value}{l:List a0m}{v v':Value}{ds ds':List Dt}
theorem PZ.grown (h:PZ s pl w B3 B4 base lv l v ds W)(hg:W.grownBy W' none):PZ s pl w B3 B4 base lv l v ds W':=⟨h.px.grown hg,a5c h.out hg vM⟩
theorem PZ.put (h:PZ s pl w B3 B4 base lv l v ds W)(hg:W.grownBy W' v.ownBlock)(hown:W'.ownsRow base 54 4 v' ds'.length (ds'.flatMap a2c)):PZ s pl w B3 B4 base lv l v' ds' W':=by
 have hne:∀B,B<base->v.ownBlock≠some B:=λB hB e=>by have:=(h.out.lt _ e).1;omega
 exact⟨⟨h.px.sheet.kept hg (hne _ h.px.l3),h.px.place.kept hg (hne _ h.px.l4),h.px.l3,h.px.l4,h.px.lw,a5c h.px.row hg (b2j h.px.row h.out jM),h.px.below.grown hg h.px.below.size (λr e=>by have:=(h.out.lt _ e).1;have:=h.px.lw;omega),Nat.le_trans h.px.lb hg.size⟩,hown⟩
end
end
section
open Go.RowKit Go.Shelf Go.Maps
attribute [local go_sem] Oper.semAt_some
variable{i j x y:Int}{s:Sh}
theorem d6c {b:Bool}(h:ofS s x y=(i,j,b))(w:World)(f0:fits s.ax)(f1:fits s.ay):
 Calls prog 62 #[shV s,.agg #[.int .i64 x,.int .i64 y]] w λe w'=>e= .returned (.tuple #[.int .i64 i,.int .i64 j,.bool b])/\Below w.heap.size w w':=by
 have h1:=d5r s x y w f0 f1;rw[h]at h1;exact h1
theorem b1e (h:ofS s x y=(i,j,true)):a1g s=0/\onS s i j=true:=by
 unfold ofS at h;split at h
 ·rename_i h1
  simp only[Prod.mk.injEq,and_true]at h;obtain⟨h2,h3⟩:=h;rw[<-h2,<-h3];exact⟨h1.1,h1.2.2⟩
 ·simp at h
abbrev plC (id x y wt di:Int)(cls name:ByteArray):Array Value:= #[.int .i64 id,.int .i64 x,.int .i64 y,.string cls,.string name,.int .i64 wt,.int .i64 di]
theorem d2m (s:Sh)(id x y wt di num i j:Int)(cls name:ByteArray)(w:World)(f0:fits s.ax)(f1:fits s.ay)(hof:ofS s x y=(i,j,false)):
 Calls prog 23 #[shV s,.agg (plC id x y wt di cls name),.int .i64 num] w λe w'=>e= .returned (.tuple #[.slice none 0 0,.bool false])/\Below w.heap.size w w':=by
 obtain⟨ax,ay,st,sw,sh,sg⟩:=s;replace hof:=Lib.hid hof;go_enter func23,ntmps23;go_wp2_with (first
  |(go_at_call 62;refine(d6c hof.out _ f0 f1).mono ?_;rintro e w'⟨rfl,hb_⟩;obtain⟨p,rfl⟩:=a0b hb_;clear hb_))
 go_ret2;exact⟨rfl,zC⟩
theorem c8y (s:Sh)(id x y wt di num i j:Int)(cls name txt cells:ByteArray)(D:Nat->Nat->Bool)(m:Nat)(w:World)(f0:fits s.ax)(f1:fits s.ay)(hof:ofS s x y=(i,j,true))(hid:fits id)
 (hn0:1<=num) (hn1:num<=999) (hcl:cls.size<=1048576) (hm:m<7) (hsum:(b0z cls.data.toList).tmod 7=m) (hce:cells.size<=16)
 (hitoa:∀W,Below w.heap.size w W->Calls prog 65 #[.int .i64 num] W λe W'=>e= .returned (.string txt)/\Below W.heap.size W W')
 (hwr:∀W,Calls prog 64 #[.string txt] W λe W'=>e= .returned (.tuple #[.string cells,.int .i64 0])/\Below W.heap.size W W')
 (hdots:∀k (h:k<cells.size) W,Calls prog 66 #[.int .u8 (cells[k]).toNat] W λe W'=>e= .returned (.agg #[.bool (D k 0),.bool (D k 1),.bool (D k 2),.bool (D k 3),.bool (D k 4),.bool (D k 5)])/\Below W.heap.size W W') 
 (hne:a6e i j id (a4u m) D cells.size≠[]) :
 Calls prog 23 #[shV s,.agg (plC id x y wt di cls name),.int .i64 num] w λe w'=>Below w.heap.size w w' /\
  (((∀p∈(a6e i j id (a4u m) D cells.size).map (·.1),onS s p.1 p.2=true)/\∃v base,e= .returned (.tuple #[v,.bool true])/\w.heap.size<=base/\w'.ownsRow base 54 4 v (a1h 3 (a6e i j id (a4u m) D cells.size)).length ((a1h 3 (a6e i j id (a4u m) D cells.size)).flatMap a2c)) \/
  ((∃p∈(a6e i j id (a4u m) D cells.size).map (·.1),onS s p.1 p.2=false)/\e= .returned (.tuple #[.slice none 0 0,.bool false]))):=by
 obtain⟨hck,hon⟩:=b1e hof;have hs:=a4h hck;obtain⟨ax,ay,st,sw,sh,sg⟩:=s;have hs':=hs;obtain⟨s0,s1,u0,u1,v0,v1,a0,a1,b0,b1⟩:=hs';simp only at s0 s1 u0 u1 v0 v1 a0 a1 b0 b1;have hij:(0<=i/\i<=80)/\(0<=j/\j<=80):=by
  exact yjo
 obtain⟨⟨i0,i1⟩,j0,j1⟩:=hij;have hwin:inR 1 num 999=true:=by simp only[inR];simp;omega
 replace hwin:=Lib.hid hwin;replace hof:=Lib.hid hof;replace hsum:=Lib.hid hsum;clear hon hck;go_enter func23,ntmps23;go_wp2_with (first
  |(go_at_call 62;refine(d6c hof.out _ f0 f1).mono ?_;rintro e w'⟨rfl,hb_⟩;obtain⟨p,rfl⟩:=a0b hb_;clear hb_)
  |(go_at_call 59;refine(a3o hwin.out _).mono ?_;rintro e w'⟨rfl,rfl⟩))
 rw[run_bytes_of_string _ 9 116 5 cls underlying9 underlying116 underlying5];generalize grownCap _ _ _ _=cap;have kS:=((Blk.new w (shC ⟨ax,ay,st,sw,sh,sg⟩) 28).alloc (.cells (plC id x y wt di cls name) 66)).grow p;have kP:=(Blk.new (w.alloc (.cells (shC ⟨ax,ay,st,sw,sh,sg⟩) 28)) (plC id x y wt di cls name) 66).grow p;rw[World.size_alloc]at kP;have hB:Below w.heap.size w (((w.alloc (.cells (shC ⟨ax,ay,st,sw,sh,sg⟩) 28)).alloc (.cells (plC id x y wt di cls name) 66)).growBy p):=zC;obtain⟨V,hV⟩:=zE (((w.alloc (.cells (shC ⟨ax,ay,st,sw,sh,sg⟩) 28)).alloc (.cells (plC id x y wt di cls name) 66)).growBy p);rw[hV]at kS kP hB ⊢;clear hV p;have hBs:w.heap.size<V.heap.size:=kS.lt;have hBp:w.heap.size+1<V.heap.size:=kP.lt;obtain⟨Bs,hBse⟩:=zE w.heap.size;obtain⟨Bp,hBpe⟩:=zE (w.heap.size+1);have kB:∀k,(V.drew.alloc (.cells (bytesRow cls cap) 5 ((bytesRow cls cap).size,(bytesRow cls cap).size+1))).cell? ⟨V.heap.size,k,none⟩=(bytesRow cls cap)[k]? :=λk=>World.cell?_alloc_mark V.drew (bytesRow cls cap) 5 ((bytesRow cls cap).size,(bytesRow cls cap).size+1) k
 have kS1:=kS.drew.alloc (.cells (bytesRow cls cap) 5 ((bytesRow cls cap).size,(bytesRow cls cap).size+1));have kP1:=kP.drew.alloc (.cells (bytesRow cls cap) 5 ((bytesRow cls cap).size,(bytesRow cls cap).size+1));have hB1:Below w.heap.size w (V.drew.alloc (.cells (bytesRow cls cap) 5 ((bytesRow cls cap).size,(bytesRow cls cap).size+1))):=(hB.drew).alloc (Nat.le_of_lt hBs) _;obtain⟨W1,hW1⟩:=zE (V.drew.alloc (.cells (bytesRow cls cap) 5 ((bytesRow cls cap).size,(bytesRow cls cap).size+1)));rw[hW1]at kB kS1 kP1 hB1;simp only[Result.andThen];rw[Oper.upon_value,hW1,hBpe,hBse];rw[hBse]at kS1;rw[hBpe]at kP1;have hsB:Bs<W1.heap.size:=kS1.lt;have hpB:Bp<W1.heap.size:=kP1.lt;generalize V.heap.size=Bb at *;have hBw:=Lib.hid hBse;have hBv:=Lib.hid hBpe;clear hBse hBpe hW1 kS kP hB;go_wp2_with fail;go_loop [11,42] (λacc k=>∃n:Nat,n<=cls.size/\k= .int .i64 n/\acc= .int .i64 (b0z (cls.data.toList.take n))) (λ_ k=>cls.size-(intOf k).toNat)
 case atStart=>exact⟨0,Nat.zero_le _,rfl,rfl⟩
 case round =>
  obtain⟨n,hn,rfl,rfl⟩:=hrel;have hle:=c1j (cls.data.toList.take n);have hll:(cls.data.toList.take n).length<=n:=List.length_take_le _ _;by_cases hlt:n<cls.size
  ·have hcell:W1.cell? ⟨Bb,n,none⟩=some (.int .u8 (cls[n]).toNat):=by rw[kB n];exact b8d cls cap n hlt
   have hsn:=b8c (cls.data.toList.take n) cls[n];rw[<-b4f cls n hlt]at hsn;have hb8:=(cls[n]).toNat_lt;obtain⟨c,hcc⟩:=zE ((cls[n]).toNat);rw[hcc]at hcell hb8 hsn;obtain⟨acc,hacc⟩:=zE (b0z (cls.data.toList.take n));rw[hacc]at hle hsn ⊢;replace hsn:=Lib.hid hsn;clear kB hcc hacc;go_wp2_with fail;go_round
   case rel=>exact⟨n+1,oM,by go_num,by rw[hsn.out]⟩
   case measure=>simp[intOf];omega
  ·have hT:b0z (cls.data.toList.take n)=b0z cls.data.toList:=by rw[List.take_of_length_le uM]
   rw[hT]at hle ⊢;have hT2:=hsum.out;obtain⟨T,hTe⟩:=zE (b0z cls.data.toList);rw[hTe]at hle hT2 ⊢;clear kB hT hTe hsum;have hmm:= @run_makeMap prog;go_wp2_with (first|(go_at_call 63;refine(c1i _).mono ?_;rintro e w'⟨rfl,hb_⟩;obtain⟨p,rfl⟩:=a0b hb_;clear hb_)|(refine a2a qM 119 _ _ qM _ _ (.agg (d9i m)) qM qM (d2a m hm _) ?_)|fail);clear hmm;have kI:PI ⟨ax,ay,st,sw,sh,sg⟩ (plC id x y wt di cls name) w Bs Bp W1.heap.size 0 [] ((W1.alloc (.map #[] 0)).growBy p) :=
    ⟨⟨0,yR _,(MapIs.made W1).grow p⟩,(kS1.alloc _).grow p,(kP1.alloc _).grow p,below_growBy' (hB1.alloc hB1.size _) (b5l hB1.size) p,hB1.size,Nat.ne_of_lt hsB,Nat.ne_of_lt hpB⟩
   obtain⟨W2,hW2⟩:=zE ((W1.alloc (.map #[] 0)).growBy p);rw[hW2]at kI ⊢;obtain⟨mb,hmb⟩:=zE W1.heap.size;rw[hmb]at kI hsB hpB ⊢;clear hW2 hmb hB1 kP1 kS1 p;obtain⟨r,hr⟩:=zE (a4u m);rw[hr]at hne;unfold d9i;rw[hr];replace hr:=Lib.hid hr;go_loopw [56] (λk W=>∃n:Nat,n<=9/\k= .int .i64 n/\PI ⟨ax,ay,st,sw,sh,sg⟩ (plC id x y wt di cls name) w Bs Bp mb n (c8k i j id r n) W) (λk _=>9-(intOf k).toNat)
   case atStart=>exact⟨0,oM,rfl,kI⟩
   case round =>
    obtain⟨n,hn,rfl,hI⟩:=hrel;by_cases hn9:n<9
    ·have hbd:(0<=(n:Int).tmod 3/\(n:Int).tmod 3<=2)/\(0<=(n:Int).tdiv 3/\(n:Int).tdiv 3<=2):=by rw[Int.tmod_eq_emod_of_nonneg oM,Int.tdiv_eq_ediv_of_nonneg oM];omega
     have hsE:c8k i j id r (n+1)=upE (r n) (c8k i j id r n) (a9f i j n) id:=rfl;unfold a9f at hsE;have hrun:=d2b r n hn9;obtain⟨u,hu⟩:=zE (r n);obtain⟨ka,hka⟩:=zE ((n:Int).tmod 3);obtain⟨kb,hkb⟩:=zE ((n:Int).tdiv 3);obtain⟨en,hen⟩:=zE (c8k i j id r n);rw[hu,hka,hkb,hen]at hsE;rw[hka,hkb]at hbd;rw[hu]at hrun;rw[hen]at hI;obtain⟨⟨A0,A1⟩,B0,B1⟩:=hbd;have c0:wr.cell? ⟨Bp,0,none⟩=some (.int .i64 id):=hI.place.cell 0;obtain⟨⟨k,hk,hM⟩,hI1,hI2,hI3,hI4,hI5,hI6⟩:=hI;have hIH:=Lib.hid (show PI ⟨ax,ay,st,sw,sh,sg⟩ (plC id x y wt di cls name) w Bs Bp mb n en wr from⟨⟨k,hk,hM⟩,hI1,hI2,hI3,hI4,hI5,hI6⟩);clear hI1 hI2 hI3 hI4 hI5 hI6 hen hu;obtain⟨Dm,hown,hnd,hfit,hkeys⟩:=hM;have hkH:=Lib.hid hkeys;have hfp:a7h (i+ka-1,j+kb-1):=⟨by show _<=_/\_<=_;simp only;omega,by show _<=_/\_<=_;simp only;omega⟩;replace hsE:=Lib.hid hsE;replace hrun:=Lib.hid hrun;clear hkeys
     cases u with
     |false =>
      go_wp2_with (first|(refine a2a qM 118 _ _ qM _ _ (.bool false) qM qM (hrun.out _) ?_)|fail);go_roundw
      case rel=>exact⟨n+1,oM,by go_num,by rw[hsE.out];exact hIH.out.up oM⟩
      case measure=>simp[intOf];omega
     |true =>
      go_wp2_with (first|(refine a2a qM 118 _ _ qM _ _ (.bool true) qM qM (hrun.out _) ?_)|(at_mapUpdate;refine wpList_mapUpdate_own _ qM _ _ _ 117 qM 122 3 spotLaw underlying117 _ mb k Dm qM hown oK _ _ (klS (i+ka-1,j+kb-1)) qM qM (a1q hfp) _ [] (plainElem_int underlying3 (b1o hid)) ?_;intro w9 hown9 hgrow9)|fail);go_roundw
      case rel=>exact⟨n+1,oM,by go_num,by rw[hsE.out];exact hIH.out.put hk hown.isMap hnd hfit hkH.out hfp hown9 hgrow9⟩
      case measure=>simp[intOf];omega
    ·obtain rfl:n=9:=oM
     go_wp2_with (first
      |(go_at_call 65;refine(hitoa _ hI.below).mono ?_;rintro e w'⟨rfl,hb_⟩;obtain⟨p,rfl⟩:=a0b hb_;clear hb_)
      |(go_at_call 64;refine(hwr _).mono ?_;rintro e w'⟨rfl,hb_⟩;obtain⟨p,rfl⟩:=a0b hb_;clear hb_))
     refine a0n (λW3 hW3=> ?_);have hI3:PI ⟨ax,ay,st,sw,sh,sg⟩ (plC id x y wt di cls name) w Bs Bp mb 9 (c8k i j id r 9) W3:=by rw[hW3];exact hI.grow _
     clear hW3 hI kI;obtain⟨e9,he9⟩:=zE (c8k i j id r 9);have hpe:a6e i j id r D cells.size=b1x i j id D e9 cells.size:=by unfold a6e;rw[he9]
     have h9:e9.length<=9:=by rw[<-he9];exact b1y i j id r 9
     rw[hpe]at hne;rw[he9]at hI3;rw[<-hr.out]at hpe;replace hpe:=Lib.hid hpe;clear he9;go_loopw [84] (λk W=>∃n:Nat,n<=cells.size/\k= .int .i64 n/\PI ⟨ax,ay,st,sw,sh,sg⟩ (plC id x y wt di cls name) w Bs Bp mb (9+6*n) (b1x i j id D e9 n) W) (λk _=>cells.size-(intOf k).toNat)
     case atStart=>exact⟨0,oM,rfl,hI3⟩
     case round =>
      clear hI3 hn hn9;rename_i n _;obtain⟨n,hn,rfl,hI⟩:=hrel;by_cases hnc:n<cells.size
      ·have hIH:=Lib.hid hI
       clear hI;go_wp2_with (first
        |(go_at_call 66;refine(hdots n hnc _).mono ?_;rintro e w'⟨rfl,hb_⟩;obtain⟨p,rfl⟩:=a0b hb_;clear hb_))
       refine a0n (λW4 hW4=> ?_);have hI4:PI ⟨ax,ay,st,sw,sh,sg⟩ (plC id x y wt di cls name) w Bs Bp mb (9+6*n) (b1x i j id D e9 n) W4:=by rw[hW4];exact hIH.out.grow _
       clear hW4 hIH;obtain⟨e0,he0⟩:=zE (b1x i j id D e9 n);obtain⟨d,hd⟩:=zE (D n);have hpn:b1x i j id D e9 (n+1)=d1h i j id n d e0 6:=by rw[<-he0,<-hd];rfl
       rw[hd];rw[he0]at hI4;replace hpn:=Lib.hid hpn;clear he0 hd;go_loopw [91] (λq W=>∃t:Nat,t<=6/\q= .int .i64 t/\PI ⟨ax,ay,st,sw,sh,sg⟩ (plC id x y wt di cls name) w Bs Bp mb (9+6*n+t) (d1h i j id n d e0 t) W) (λq _=>6-(intOf q).toNat)
       case atStart=>exact⟨0,oM,rfl,hI4⟩
       case round =>
        clear hI4;obtain⟨t,ht,rfl,hI⟩:=hrel;by_cases ht6:t<6
        ·have hbd:(0<=(t:Int).tmod 3/\(t:Int).tmod 3<=2)/\(0<=(t:Int).tdiv 3/\(t:Int).tdiv 3<=2):=by rw[Int.tmod_eq_emod_of_nonneg oM,Int.tdiv_eq_ediv_of_nonneg oM];omega
         have hsE:d1h i j id n d e0 (t+1)=upE (d t) (d1h i j id n d e0 t) (b1a i j n t) id:=rfl;unfold b1a at hsE;have hrun:=d2c d t ht6;obtain⟨u,hu⟩:=zE (d t);obtain⟨ka,hka⟩:=zE ((t:Int).tmod 3);obtain⟨kb,hkb⟩:=zE ((t:Int).tdiv 3);obtain⟨en,hen⟩:=zE (d1h i j id n d e0 t);rw[hu,hka,hkb,hen]at hsE;rw[hka,hkb]at hbd;rw[hu]at hrun;rw[hen]at hI;obtain⟨⟨A0,A1⟩,B0,B1⟩:=hbd;have c0:wr.cell? ⟨Bp,0,none⟩=some (.int .i64 id):=hI.place.cell 0;obtain⟨⟨k,hk,hM⟩,hI1,hI2,hI3,hI4,hI5,hI6⟩:=hI;have hIH:=Lib.hid (show PI ⟨ax,ay,st,sw,sh,sg⟩ (plC id x y wt di cls name) w Bs Bp mb (9+6*n+t) en wr from⟨⟨k,hk,hM⟩,hI1,hI2,hI3,hI4,hI5,hI6⟩);clear hI1 hI2 hI3 hI4 hI5 hI6 hen hu;obtain⟨Dm,hown,hnd,hfit,hkeys⟩:=hM;have hkH:=Lib.hid hkeys;have hfp:a7h (i+3+3*n+kb,j+1-ka):=⟨by show _<=_/\_<=_;simp only;omega,by show _<=_/\_<=_;simp only;omega⟩;replace hsE:=Lib.hid hsE;replace hrun:=Lib.hid hrun;clear hkeys hdots hitoa hwr
         cases u with
         |false =>
          go_wp2_with (first|(refine a2a qM 126 _ _ qM _ _ (.bool false) qM qM (hrun.out _) ?_)|fail);go_roundw
          case rel=>exact⟨t+1,oM,by go_num,by rw[hsE.out];exact hIH.out.up oM⟩
          case measure=>simp[intOf];omega
         |true =>
          go_wp2_with (first|(refine a2a qM 126 _ _ qM _ _ (.bool true) qM qM (hrun.out _) ?_)|(at_mapUpdate;refine wpList_mapUpdate_own _ qM _ _ _ 117 qM 122 3 spotLaw underlying117 _ mb k Dm qM hown oK _ _ (klS (i+3+3*n+kb,j+1-ka)) qM qM (a1q hfp) _ [] (plainElem_int underlying3 (b1o hid)) ?_;intro w9 hown9 hgrow9)|fail);go_roundw
          case rel=>exact⟨t+1,oM,by go_num,by rw[hsE.out];exact hIH.out.put hk hown.isMap hnd hfit hkH.out hfp hown9 hgrow9⟩
          case measure=>simp[intOf];omega
        ·obtain rfl:t=6:=oM
         rw[<-hpn.out]at hI;go_wp2_with fail;go_roundw
         case rel=>exact⟨n+1,oM,by go_num,hI.up oM⟩
         case measure=>simp[intOf];omega
      ·obtain rfl:n=cells.size:=oM
       have hle:=a9y i j id D e9 cells.size;obtain⟨en,hen⟩:=zE (b1x i j id D e9 cells.size);rw[hen]at hle hI hne;have hpe2:=hpe.out;rw[hen]at hpe2;replace hpe2:=Lib.hid hpe2;obtain⟨W5,hW5⟩:=zE wr;rw[hW5]at hI ⊢;have hIH:=Lib.hid hI;obtain⟨⟨nn,hnn,Dm,hown,hnd,hfit,hkeys⟩,hI1,hI2,hI3,hI4,hI5,hI6⟩:=hI;have hI1l:=hI1.lt;have hI2l:=hI2.lt;have hMl:mb<W5.heap.size:=MapIs.lt ⟨Dm,hown,hnd,hfit,hkeys⟩;have hwl:=hI3.size;have hkH:=Lib.hid hkeys;clear hkeys hI1 hI2 hI3 hdots hitoa hwr hpe hen;go_wp2_with (first|(at_range;refine wpList_range_own _ rfl _ 117 rfl 122 3 spotLaw underlying117 _ mb nn _ rfl hown ?_;intro w0 hrg0 hg0 hs0)|fail);go_frame
       have hI0:=hIH.out.grown hg0;go_loopw [22] (λ_ wr=>∃(left:Lit->Bool) (cnt:Nat) (ss:List a0m),wr.ranges prog 122 (plainElem prog 3) mb W5.heap.size nn Dm left cnt/\CollS en left ss/\(∀p∈ss,onS ⟨ax,ay,st,sw,sh,sg⟩ p.1 p.2=true)/\PI ⟨ax,ay,st,sw,sh,sg⟩ (plC id x y wt di cls name) w Bs Bp mb (9+6*cells.size) en wr)
        (λ_ wr=>wr.rangeLeft mb W5.heap.size)
       case atStart=>exact⟨_,_,[],hrg0,CollS.start (λp hp=>(hkH.out p hp).1),by simp,hI0⟩
       case round =>
        clear hI0 hrg0 hs0;rename_i wr0 _;obtain⟨left,cnt,ss,hrg,hC,hss,hI⟩:=hrel;have hlf:wr.rangeLeft mb W5.heap.size=cnt:=hrg.left_eq;go_wp2_with (first|(at_next;refine wpList_next_ranges _ rfl _ rfl 122 spotLaw (plainElem prog 3) a4q (λv:Value=>v) (λkey kl hk=>by obtain⟨x,_,hx,_⟩:=a3m hk;exact⟨x,hx⟩) (λv _ _=>⟨v,rfl⟩) mb W5.heap.size nn _ _ _ rfl hrg ?_ ?_)|fail)
        ·intro hc0 hl0
         have hall:=hC.all hl0 hfit;have hkeysOn:∀p∈en.map (·.1),onS ⟨ax,ay,st,sw,sh,sg⟩ p.1 p.2=true:=λp hp=>hss p ((hall.2 p).2 hp)
         have hI3:=hI.below;obtain⟨kk,hkk,hMM⟩:=hI.map;have hord:=b1s 3 mb kk en wr hMM oM hne oM;have hs3:=hI3.size;clear hrg hC hl0 hall hMM;go_wp2_with (first|(go_at_call 68;refine hord.mono ?_;rintro e w9⟨v,base,rfl,hbase,hrow,hb9⟩)|fail);go_ret2;rw[hpe2.out];exact⟨hI3.trans (hb9.mono hs3),.inl ⟨hkeysOn,v,base,rfl,Nat.le_trans hs3 hbase,hrow⟩⟩
        ·intro x0 x1 c kl yd yp w2 cnt2 hkey hlk hv hat hrg2 hlt2 hg2 hs2 hen2
         obtain⟨x',fx,ex,rfl⟩:=a3m hkey;obtain rfl:(x0,x1)=x':=by simp at ex;exact Prod.ext ex.1 ex.2
         have hhas:b0q en (x0,x1)=true:=by rw[<-(hkH.out (x0,x1) fx).1];exact has_true_of_atKey hat
         have hI2:=hI.turn hg2 oM oM oM oM;have c0:w2.cell? ⟨Bs,0,none⟩=some (.int .i64 ax):=hI2.sheet.cell 0;have c1:w2.cell? ⟨Bs,1,none⟩=some (.int .i64 ay):=hI2.sheet.cell 1;have c2:w2.cell? ⟨Bs,2,none⟩=some (.int .i64 st):=hI2.sheet.cell 2;have c3:w2.cell? ⟨Bs,3,none⟩=some (.int .i64 sw):=hI2.sheet.cell 3;have c4:w2.cell? ⟨Bs,4,none⟩=some (.int .i64 sh):=hI2.sheet.cell 4;have c5:w2.cell? ⟨Bs,5,none⟩=some (.int .i64 sg):=hI2.sheet.cell 5;obtain⟨b,hb⟩:=zE (onS ⟨ax,ay,st,sw,sh,sg⟩ x0 x1);replace hb:=Lib.hid hb;have hC2:=Lib.hid (hC.step fx hlk hhas);have hI2':=Lib.hid hI2;have hrg2':=Lib.hid hrg2;clear hs2 hkey hC hI hI2 hrg hrg2 hfit hlk hv hat
         cases b with
         |false =>
          go_wp2_with (first|(go_at_call 67;refine(b4b ⟨ax,ay,st,sw,sh,sg⟩ x0 x1 _ _ hb.out hs).mono ?_;rintro e w'⟨rfl,hb_⟩;obtain⟨p,rfl⟩:=a0b hb_;clear hb_)|fail);go_ret2;rw[hpe2.out];exact⟨below_growBy' (hI2'.out.below.alloc hI2'.out.below.size _) (b5l hI2'.out.below.size) _,.inr ⟨⟨(x0,x1),a2h.1 hhas,hb.out⟩,rfl⟩⟩
         |true =>
          go_wp2_with (first|(go_at_call 67;refine(b4b ⟨ax,ay,st,sw,sh,sg⟩ x0 x1 _ _ hb.out hs).mono ?_;rintro e w'⟨rfl,hb_⟩;obtain⟨p,rfl⟩:=a0b hb_;clear hb_)|fail);have hrg3:=(hrg2'.out.alloc (.cells #[.int .i64 x0,.int .i64 x1] 122)).kept (a0q _ p) vM vM;go_roundw
          case rel=>exact⟨_,cnt2,ss++[(x0,x1)],hrg3,hC2.out,λp hp=>by rcases List.mem_append.1 hp with h|h;exact hss p h;(obtain rfl:p=(x0,x1):=by simpa using h);exact hb.out,(hI2'.out.grown (World.grownBy_alloc w2 _ none)).grow _⟩
          case measure=>rw[hlf,hrg3.left_eq];exact hlt2
end
end Go.Proofs.YtfocdbjceedagaaGreatDoor
