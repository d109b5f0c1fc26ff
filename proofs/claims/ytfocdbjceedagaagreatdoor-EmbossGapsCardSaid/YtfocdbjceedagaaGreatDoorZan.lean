/-
  Parts.
-/
import Derived.Test.YtfocdbjceedagaaGreatDoorZak
import Derived.Deep.Onto
import Derived.Sort.LotA
set_option linter.unusedVariables false
set_option linter.unusedSimpArgs false
namespace Go.Proofs.YtfocdbjceedagaaGreatDoor
open Tryz
section
open Go.RowKit Go.Shelf
def Wy.cellL (y:Wy):List Value:=[.int .i64 y.id,y.lv,.int .i64 y.lvl,.string y.cls,.string y.nm,.bool y.st,.int .i64 y.wt,.int .i64 y.di]
structure GoodW (y:Wy):Prop where
 id:fits y.id
 len:y.line.length≤3
 small:∀p∈y.line,Small p
theorem row_kept {W W':World}{base n₀:Nat}{e:TypeId}{size:Nat}{v:Value}{k:Nat}{xs:List Value}{row:Option Nat}(h:W.ownsRow base e size v k xs)(hg:W.grownBy W' row)(hb:n₀<base)(hr:∀r,row=some r→r=n₀):W'.ownsRow base e size v k xs:=by
 refine h.kept hg ?_
 rcases h.2 with ⟨rfl,_⟩|⟨g,cap,cur,rfl,hbase,_⟩
 ·exact .inl rfl
 ·refine .inr fun e'=> ?_
  have:=hr g (by simpa [Value.ownBlock] using e'.symm)
  omega
structure MR (n₀:Nat)(w:World)(sv:Value)(xs:List Int)(K:Nat)(v:Value)(ys:List Wy)(W:World):Prop where
 dw:DW n₀ w sv xs K W
 row:W.ownsRow (n₀+1) 149 8 v ys.length (ys.flatMap Wy.cellL)
 lines:∀y∈ys,W.ownsRow (n₀+1) 26 2 y.lv y.line.length (y.line.flatMap encS)
variable {n₀ K:Nat}{w W W':World}{sv v:Value}{xs:List Int}{ys:List Wy}
theorem MR.grown (h:MR n₀ w sv xs K v ys W)(hg:W.grownBy W' none):MR n₀ w sv xs K v ys W' :=
 ⟨h.dw.kept hg (by simp),row_kept h.row hg (Nat.lt_succ_self _) (by simp),fun y hy=>row_kept (h.lines y hy) hg (Nat.lt_succ_self _) (by simp)⟩
theorem MR.alloc (h:MR n₀ w sv xs K v ys W)(o:Obj):MR n₀ w sv xs K v ys (W.alloc o):=h.grown (World.grownBy_alloc W o none)
theorem drew_grown (W:World):W.grownBy W.drew none:=⟨rfl,rfl,rfl,yR _,fun _ _ _=>rfl⟩
theorem MR.drew (h:MR n₀ w sv xs K v ys W):MR n₀ w sv xs K v ys W.drew:=h.grown (drew_grown W)
theorem MR.more {K':Nat}(h:MR n₀ w sv xs K v ys W)(hK:K≤K'):MR n₀ w sv xs K' v ys W:=by
 obtain⟨⟨⟨j,hj,hD⟩,h2,h3⟩,h4,h5⟩:=h
 exact⟨⟨⟨j,by omega,hD⟩,h2,h3⟩,h4,h5⟩
theorem MR.call (h:MR n₀ w sv xs K v ys W)(hk:K≤1000)(m:Int)(hm1:1≤m)(hm2:m≤4611686018427387904) :
 Calls prog 73 #[.pointer (some ⟨n₀,0,none⟩),.int .i64 m] W fun e W'=>∃x,e= .returned (.int .i64 x)∧0≤x∧x<m∧MR n₀ w sv xs (K+1) v ys W'∧W.grownBy W' (some n₀):=by
 refine (h.dw.call hk m hm1 hm2).mono ?_
 rintro e W'⟨x,rfl,h0,h1,h2,hg⟩
 exact⟨x,rfl,h0,h1,⟨h2,row_kept h.row hg (Nat.lt_succ_self _) (fun r e=>by cases e;rfl),fun y hy=>row_kept (h.lines y hy) hg (Nat.lt_succ_self _) (fun r e=>by cases e;rfl)⟩,hg⟩
theorem MR.lt (h:MR n₀ w sv xs K v ys W):n₀<W.heap.size:=h.dw.lt
abbrev pathS:Value:= .string ⟨#[112,97,116,104]⟩
abbrev wyC (id:Int)(lv:Value)(lvl wt:Int)(stb:Bool):Array Value:= #[.int .i64 id,lv,.int .i64 lvl,pathS,.string ⟨#[]⟩,.bool stb,.int .i64 wt,.int .i64 1]
theorem setCell_grown0 (W:World)(b i:Nat)(v:Value):W.grownBy (W.setCell ⟨b,i,none⟩ v) (some b) :=
 ⟨rfl,rfl,rfl,by simp,fun k hk hne=>Below.heap_setCell _ _ _ _ (fun e=>hne (by rw[e]))⟩
theorem rows_apartR {W:World}{b1 b2:Nat}{e1 e2:TypeId}{s1 s2 k1 k2:Nat}{v1 v2:Value}{x1 x2:List Value}(h1:W.ownsRow b1 e1 s1 v1 k1 x1)(h2:W.ownsRow b2 e2 s2 v2 k2 x2)(hne:e1≠e2):∀r,v2.ownBlock=some r→v1.ownBlock≠some r:=by
 intro r hr hr1
 rcases h1.2 with ⟨rfl,_⟩|⟨g,cap,cur,rfl,_,hgb,_⟩
 ·cases hr1
 ·rcases h2.2 with ⟨rfl,_⟩|⟨g',cap',cur',rfl,_,hgb',_⟩
  ·cases hr
  ·cases hr
   cases hr1
   rw[hgb] at hgb'
   cases hgb'
   exact hne rfl
theorem row_other {W W':World}{b1:Nat}{e1:TypeId}{s1 k1:Nat}{v1:Value}{x1:List Value}{row:Option Nat}(h1:W.ownsRow b1 e1 s1 v1 k1 x1)(hg:W.grownBy W' row)(hr:∀r,row=some r→v1.ownBlock≠some r):W'.ownsRow b1 e1 s1 v1 k1 x1:=by
 refine h1.kept hg ?_
 rcases h1.2 with ⟨rfl,_⟩|⟨g,cap,cur,rfl,_⟩
 ·exact .inl rfl
 ·exact .inr fun e'=>hr g (by simpa [Value.ownBlock] using e'.symm) rfl
theorem blk_apart {W:World}{b1 B:Nat}{e1 t:TypeId}{s1 k1:Nat}{v1:Value}{x1:List Value}{c:Array Value}(h1:W.ownsRow b1 e1 s1 v1 k1 x1)(hB:Blk W B c t)(hne:e1≠t):v1.ownBlock≠some B :=
 ownsRow_other h1 hB (fun e=>hne e.symm)
structure MP (n₀:Nat)(w:World)(sv:Value)(xs:List Int)(K:Nat)(v:Value)(ys:List Wy)(B:Nat)(id:Int)(lv:Value)(lvl wt:Int)(stb:Bool)(ps:List Spot)(W:World):Prop where
 mr:MR n₀ w sv xs K v ys W
 box:Blk W B (wyC id lv lvl wt stb) 149
 far:n₀<B
 own:v.ownBlock≠some B
 line:W.ownsRow (n₀+1) 26 2 lv ps.length (ps.flatMap encS)
 apart:∀y∈ys,∀r,lv.ownBlock=some r→y.lv.ownBlock≠some r
variable {B:Nat}{id lvl wt:Int}{lv:Value}{stb:Bool}{ps:List Spot}
theorem MP.grown (h:MP n₀ w sv xs K v ys B id lv lvl wt stb ps W)(hg:W.grownBy W' none):MP n₀ w sv xs K v ys B id lv lvl wt stb ps W' :=
 ⟨h.mr.grown hg,h.box.kept hg (by simp),h.far,h.own,row_kept h.line hg (Nat.lt_succ_self _) (by simp),h.apart⟩
theorem MP.alloc (h:MP n₀ w sv xs K v ys B id lv lvl wt stb ps W)(o:Obj):MP n₀ w sv xs K v ys B id lv lvl wt stb ps (W.alloc o):=h.grown (World.grownBy_alloc W o none)
theorem MP.drew (h:MP n₀ w sv xs K v ys B id lv lvl wt stb ps W):MP n₀ w sv xs K v ys B id lv lvl wt stb ps W.drew:=h.grown (drew_grown W)
theorem MP.more {K':Nat}(h:MP n₀ w sv xs K v ys B id lv lvl wt stb ps W)(hK:K≤K'):MP n₀ w sv xs K' v ys B id lv lvl wt stb ps W:=⟨h.mr.more hK,h.box,h.far,h.own,h.line,h.apart⟩
theorem MP.call (h:MP n₀ w sv xs K v ys B id lv lvl wt stb ps W)(hk:K≤1000)(m:Int)(hm1:1≤m)(hm2:m≤4611686018427387904) :
 Calls prog 73 #[.pointer (some ⟨n₀,0,none⟩),.int .i64 m] W fun e W'=>∃x,e= .returned (.int .i64 x)∧0≤x∧x<m∧MP n₀ w sv xs (K+1) v ys B id lv lvl wt stb ps W'∧W.grownBy W' (some n₀):=by
 refine (h.mr.call hk m hm1 hm2).mono ?_
 rintro e W'⟨x,rfl,h0,h1,h2,hg⟩
 have hf:=h.far
 exact⟨x,rfl,h0,h1,⟨h2,h.box.kept hg (fun e=>by cases e;omega),hf,h.own,row_kept h.line hg (Nat.lt_succ_self _) (fun r e=>by cases e;rfl),h.apart⟩,hg⟩
theorem MR.set {c:Array Value}(h:MR n₀ w sv xs K v ys W)(hB:Blk W B c 149)(hf:n₀<B)(hne:v.ownBlock≠some B)(i:Nat)(x:Value):MR n₀ w sv xs K v ys (W.setCell ⟨B,i,none⟩ x):=by
 have hg:=setCell_grown0 W B i x
 exact⟨h.dw.kept hg (fun r e=>by cases e;exact hf),row_other h.row hg (fun r e=>by cases e;exact hne),fun y hy=>row_other (h.lines y hy) hg (fun r e=>by cases e;exact blk_apart (h.lines y hy) hB (by decide))⟩
theorem MP.set (h:MP n₀ w sv xs K v ys B id lv lvl wt stb ps W){id' lvl' wt':Int}{lv':Value}{stb':Bool}(i:Nat)(x:Value)(hc:(wyC id lv lvl wt stb).setIfInBounds i x=wyC id' lv' lvl' wt' stb')(hl:lv'=lv) :
 MP n₀ w sv xs K v ys B id' lv' lvl' wt' stb' ps (W.setCell ⟨B,i,none⟩ x):=by
 subst hl
 have hg:=setCell_grown0 W B i x
 exact⟨h.mr.set h.box h.far h.own i x,by rw[←hc];exact h.box.set i x,h.far,h.own,row_other h.line hg (fun r e=>by cases e;exact blk_apart h.line h.box (by decide)),h.apart⟩
end
section
open Go.RowKit Go.Shelf
attribute [local go_sem] Oper.semAt_some
attribute [local go_sem ↓] Go.wp_at_zero Go.wp_at_succ
abbrev wyZ:Array Value:= #[.int .i64 0,.slice none 0 0,.int .i64 0,.string ⟨#[]⟩,.string ⟨#[]⟩,.bool false,.int .i64 0,.int .i64 0]
def FW (n₀ k:Nat)(a:Int)(ob:Option Nat)(ys:List Wy)(i:Nat)(v:Value)(w:World):Prop :=
 match i with
 |0=>v= .int .i64 (k:Nat)
 |1=>v= .int .i64 (1+(k:Nat))
 |2=>∃B,v= .slice (some ⟨B,0,none⟩) 4 4∧n₀<B∧Blk w B #[.int .i64 0,.int .i64 0,.int .i64 1,.int .i64 (-1)] 3
 |3=>v= .pointer (some ⟨n₀,0,none⟩)
 |4=>∃x:Nat,v= .int .i64 x∧x<4
 |5=>∃B,∃x:Nat,v= .pointer (some ⟨B,x,none⟩)∧x<4∧n₀<B∧Blk w B #[.int .i64 0,.int .i64 0,.int .i64 1,.int .i64 (-1)] 3
 |6=>∃x,v= .int .i64 x
 |7=>v= .pointer (some ⟨n₀,0,none⟩)
 |8=>∃x,v= .int .i64 x∧0≤x∧x<20
 |9=>∃x,v= .int .i64 x
 |10=>v= .int .i64 a
 |11=>∃x y,v= .agg #[.int .i64 x,.int .i64 y]∧Small (x,y)
 |12=>∃L x y,v= .slice (some ⟨L,0,none⟩) 1 1∧n₀<L∧Blk w L #[.int .i64 x,.int .i64 y] 26∧Small (x,y)∧∀y∈ys,y.lv.ownBlock≠some L
 |13=>∃L x y lvl wt,v= .agg (wyC (1+(k:Nat)) (.slice (some ⟨L,0,none⟩) 1 1) lvl wt false)∧n₀<L∧Blk w L #[.int .i64 x,.int .i64 y] 26∧Small (x,y)∧∀y∈ys,y.lv.ownBlock≠some L
 |14=>∃B,v= .pointer (some ⟨B,0,none⟩)∧n₀<B∧Blk w B wyZ 149∧ob≠some B
 |_=>False
def GW (n₀:Nat)(w w':World):Prop:=∃row,w.grownBy w' row∧∀r,row=some r→r=n₀
theorem FW.kept {n₀ k:Nat}{a:Int}{ob:Option Nat}{ys:List Wy}{i:Nat}{v:Value}{w w':World}(h:FW n₀ k a ob ys i v w)(hg:GW n₀ w w'):FW n₀ k a ob ys i v w':=by
 obtain⟨row,hg,hr⟩:=hg
 have hne:∀B,n₀<B→row≠some B:=fun B hB e=>by have:=hr B e;omega
 unfold FW at *
 split at h
 ·exact h
 ·exact h
 ·obtain⟨B,h1,h2,h3⟩:=h;exact⟨B,h1,h2,h3.kept hg (hne B h2)⟩
 ·exact h
 ·exact h
 ·obtain⟨B,x,h1,h2,h3,h4⟩:=h;exact⟨B,x,h1,h2,h3,h4.kept hg (hne B h3)⟩
 ·exact h
 ·exact h
 ·exact h
 ·exact h
 ·exact h
 ·exact h
 ·obtain⟨B,x,y,h1,h2,h3,h4⟩:=h;exact⟨B,x,y,h1,h2,h3.kept hg (hne B h2),h4⟩
 ·obtain⟨B,x,y,l,t,h1,h2,h3,h4⟩:=h;exact⟨B,x,y,l,t,h1,h2,h3.kept hg (hne B h2),h4⟩
 ·obtain⟨B,h1,h2,h3,h4⟩:=h;exact⟨B,h1,h2,h3.kept hg (hne B h2),h4⟩
 ·exact h
theorem GW.refl (n₀:Nat)(w:World):GW n₀ w w:=⟨none,grownBy_of_below (zR _ _),by simp⟩
theorem GW.alloc (n₀:Nat)(w:World)(o:Obj):GW n₀ w (w.alloc o):=⟨none,World.grownBy_alloc w o none,by simp⟩
def FX (n₀ B:Nat)(lv:Value)(i:Nat)(v:Value)(w:World):Prop :=
 match i with
 |0=>v= .pointer (some ⟨B,1,none⟩)
 |1=>v=lv
 |2=>v= .pointer (some ⟨n₀,0,none⟩)
 |3=>∃x,v= .int .i64 x∧0≤x∧x<2
 |4=>∃x,v= .int .i64 x∧0≤x∧x≤10
 |5=>∃x,v= .int .i64 x∧0≤x∧x≤15
 |6=>v= .pointer (some ⟨n₀,0,none⟩)
 |7=>∃x,v= .int .i64 x∧0≤x∧x<2
 |8=>∃x,v= .int .i64 x∧0≤x∧x≤10
 |9=>∃x,v= .int .i64 x∧0≤x∧x≤15
 |10=>∃x y,v= .agg #[.int .i64 x,.int .i64 y]∧Small (x,y)
 |11=>∃L x y,v= .slice (some ⟨L,0,none⟩) 1 1∧n₀<L∧Blk w L #[.int .i64 x,.int .i64 y] 26∧Small (x,y)
 |_=>False
theorem FX.kept {n₀ B:Nat}{lv:Value}{i:Nat}{v:Value}{w w':World}(h:FX n₀ B lv i v w)(hg:GW n₀ w w'):FX n₀ B lv i v w':=by
 obtain⟨row,hg,hr⟩:=hg
 unfold FX at *
 split at h
 all_goals first|exact h|(obtain⟨L,x,y,h1,h2,h3,h4⟩:=h;exact⟨L,x,y,h1,h2,h3.kept hg (fun e=>by have:=hr L e;omega),h4⟩)
def FY (n₀ B:Nat)(lv:Value)(b:Int)(i:Nat)(v:Value)(w:World):Prop :=
 match i with
 |0=>v= .pointer (some ⟨B,1,none⟩)
 |1=>v=lv
 |2=>v= .int .i64 b
 |3=>∃x y,v= .agg #[.int .i64 x,.int .i64 y]∧Small (x,y)
 |4=>∃L x y,v= .slice (some ⟨L,0,none⟩) 1 1∧n₀<L∧Blk w L #[.int .i64 x,.int .i64 y] 26∧Small (x,y)
 |_=>False
theorem FY.kept {n₀ B:Nat}{lv:Value}{b:Int}{i:Nat}{v:Value}{w w':World}(h:FY n₀ B lv b i v w)(hg:GW n₀ w w'):FY n₀ B lv b i v w':=by
 obtain⟨row,hg,hr⟩:=hg
 unfold FY at *
 split at h
 all_goals first|exact h|(obtain⟨L,x,y,h1,h2,h3,h4⟩:=h;exact⟨L,x,y,h1,h2,h3.kept hg (fun e=>by have:=hr L e;omega),h4⟩)
theorem MP.lt {n₀ K:Nat}{w W:World}{sv v:Value}{xs:List Int}{ys:List Wy}{B:Nat}{id lvl wt:Int}{lv:Value}{stb:Bool}{ps:List Spot}(h:MP n₀ w sv xs K v ys B id lv lvl wt stb ps W):n₀<W.heap.size:=h.mr.lt
end
section
open Go.RowKit Go.Shelf Go.Maps
attribute [local go_sem] Oper.semAt_some
attribute [local go_sem ↓] Go.wp_at_zero Go.wp_at_succ
theorem Wys.at_ {n₀:Nat}{w:World}{a:Option Addr}{ws:List Wy}{cap:Nat}(h:Wys n₀ w (.slice a ws.length cap) ws)(h0:0<ws.length):∃b off,a=some ⟨b,off,none⟩∧∀X,Below n₀ w X→∀j,(h:j<ws.length)→WyAt n₀ X b (off+j*8) ws[j]:=by
 obtain⟨a',cap',e,hp⟩:=h
 simp only[Value.slice.injEq,true_and] at e
 obtain⟨rfl,rfl⟩:=e
 obtain⟨b,off,rfl,hb,-⟩:=hp 0 h0
 refine⟨b,off,rfl,fun X hX j hj=> ?_⟩
 obtain⟨b',off',e,hb',y0⟩:=hp j hj
 simp only[Option.some.injEq,Addr.mk.injEq,and_true] at e
 obtain⟨rfl,rfl⟩:=e
 exact y0.below hX hb
end
section
open Go.RowKit Go.Shelf Go.Maps Go.Deep
attribute [local go_sem] Oper.semAt_some
attribute [local go_sem ↓] Go.wp_at_zero Go.wp_at_succ
def WysN (W:World)(xv:Value)(l:List Wy):Prop:=(xv= .slice none 0 0∧l=[])∨(l≠[]∧Wys W.heap.size W xv l)
theorem WysN.below {W W':World}{xv:Value}{l:List Wy}(h:WysN W xv l)(hb:Below W.heap.size W W'):WysN W' xv l:=by
 rcases h with ⟨rfl,rfl⟩|⟨h1,h⟩
 ·exact .inl ⟨rfl,rfl⟩
 ·exact .inr ⟨h1,h.up hb hb.size⟩
theorem Wys.pts {n₀:Nat}{W:World}{sv:Value}{l:List Wy}(h:Wys n₀ W sv l):∀y∈l,Pts n₀ W y.lv y.line:=fun y hy=>by
 obtain⟨k,hk,rfl⟩:=List.getElem_of_mem hy
 have h':=h
 obtain⟨a,cap,rfl,-⟩:=h'
 obtain⟨b,off,rfl,hp⟩:=h.at_ (by omega)
 exact (hp W (zR _ _) k hk).pts
end
section
open Go.RowKit Go.Shelf
attribute [local go_sem] Oper.semAt_some
def letC:Array Value:= #[.int .i64 1,.int .i64 3,.int .i64 9,.int .i64 25,.int .i64 17,.int .i64 11,.int .i64 27,.int .i64 19,.int .i64 10,.int .i64 26,.int .i64 5,.int .i64 7,.int .i64 13,.int .i64 29,.int .i64 21,.int .i64 15,.int .i64 31,.int .i64 23,.int .i64 14,.int .i64 30,.int .i64 37,.int .i64 39,.int .i64 58,.int .i64 45,.int .i64 61,.int .i64 53]
end
section
open Go.RowKit Go.Shelf
attribute [local go_sem] Oper.semAt_some
@[local simp] theorem l0:letC[0]? =some (.int .i64 1):=rfl
@[local simp] theorem l1:letC[1]? =some (.int .i64 3):=rfl
@[local simp] theorem l2:letC[2]? =some (.int .i64 9):=rfl
@[local simp] theorem l3:letC[3]? =some (.int .i64 25):=rfl
@[local simp] theorem l4:letC[4]? =some (.int .i64 17):=rfl
@[local simp] theorem l5:letC[5]? =some (.int .i64 11):=rfl
@[local simp] theorem l6:letC[6]? =some (.int .i64 27):=rfl
@[local simp] theorem l7:letC[7]? =some (.int .i64 19):=rfl
@[local simp] theorem l8:letC[8]? =some (.int .i64 10):=rfl
@[local simp] theorem l9:letC[9]? =some (.int .i64 26):=rfl
attribute [local go_sem] l0 l1 l2 l3 l4 l5 l6 l7 l8 l9
end
section
open Go.RowKit Go.Shelf
theorem evalAt {b:Act}{k:Nat}{v:Value}(h:b.eval (.tmp k)=v):b.tmps[k]?.getD undef=v:=by
 rw[←h]
 simp[Act.eval]
theorem drew_grown7 (W:World):W.grownBy W.drew none:=⟨rfl,rfl,rfl,yR _,fun _ _ _=>rfl⟩
def rput:List Dt→Dt→List Dt
 |[],x=>[x]
 |d::l,x=>if ltS (d.x,d.y) (x.x,x.y) then d::rput l x else if (d.x,d.y)=(x.x,x.y) then (if x.i<d.i then ⟨d.x,d.y,d.k,x.i⟩ else d)::l else x::d::l
def insS:List Spot→Spot→List Spot
 |[],p=>[p]
 |q::ks,p=>if ltS q p then q::insS ks p else if q=p then q::ks else p::q::ks
theorem ltS_irrefl (p:Spot):ltS p p=false:=by simp[ltS]
theorem ltS_trans {p q r:Spot}(h1:ltS p q=true)(h2:ltS q r=true):ltS p r=true:=by simp[ltS] at *;omega
theorem ltS_tri {p q:Spot}(h1:ltS p q=false)(h2:¬p=q):ltS q p=true:=by
 obtain⟨a,b⟩:=p
 obtain⟨c,d⟩:=q
 simp[ltS] at *
 omega
theorem mem_insS (p q:Spot):∀ks:List Spot,q∈insS ks p↔q=p∨q∈ks
 |[]=>by simp[insS]
 |a::ks=>by
  unfold insS
  split
  ·simp only[List.mem_cons,mem_insS p q ks]
   constructor
   ·rintro (h|h|h) <;> simp[h]
   ·rintro (h|h|h) <;> simp[h]
  ·split
   ·rename_i h;subst h;simp
   ·simp
theorem insS_sorted (p:Spot):∀ {ks:List Spot},ks.Pairwise (fun a b=>ltS a b=true)→(insS ks p).Pairwise (fun a b=>ltS a b=true)
 |[],_=>by simp[insS]
 |a::ks,h=>by
  rw[List.pairwise_cons] at h
  unfold insS
  split
  ·rename_i h1
   rw[List.pairwise_cons]
   refine⟨fun b hb=> ?_,insS_sorted p h.2⟩
   rcases (mem_insS p b ks).1 hb with rfl|hb
   ·exact h1
   ·exact h.1 b hb
  ·rename_i h1
   split
   ·exact List.pairwise_cons.2 h
   ·rename_i h2
    have h3:=ltS_tri (by simpa using h1) h2
    rw[List.pairwise_cons]
    refine⟨fun b hb=> ?_,List.pairwise_cons.2 h⟩
    rcases List.mem_cons.1 hb with rfl|hb
    ·exact h3
    ·exact ltS_trans h3 (h.1 b hb)
def mkD (k:Int)(f:Spot→Int)(p:Spot):Dt:=⟨p.1,p.2,k,f p⟩
theorem rput_map (k:Int)(f f':Spot→Int)(p:Spot)(id:Int):∀(ks:List Spot),ks.Pairwise (fun a b=>ltS a b=true)→(∀q,q≠p→f' q=f q)→(p∈ks→f' p=if id<f p then id else f p)→(p∉ks→f' p=id) →
 rput (ks.map (mkD k f)) ⟨p.1,p.2,k,id⟩=(insS ks p).map (mkD k f')
 |[],_,_,_,h3=>by
  simp only[List.map_nil,rput,insS,List.map_cons]
  unfold mkD
  rw[h3 (by simp)]
 |a::ks,hs,h1,h2,h3=>by
  rw[List.pairwise_cons] at hs
  show (if ltS a p=true then mkD k f a::rput (ks.map (mkD k f)) ⟨p.1,p.2,k,id⟩ else if a=p then (if id<f a then ⟨a.1,a.2,k,id⟩ else mkD k f a)::ks.map (mkD k f) else ⟨p.1,p.2,k,id⟩::mkD k f a::ks.map (mkD k f))=(if ltS a p=true then a::insS ks p else if a=p then a::ks else p::a::ks).map (mkD k f')
  by_cases hlt:ltS a p=true
  ·rw[if_pos hlt,if_pos hlt,List.map_cons]
   have hne:a≠p:=fun e=>by subst e;rw[ltS_irrefl] at hlt;cases hlt
   rw[rput_map k f f' p id ks hs.2 h1 (fun h=>h2 (List.mem_cons_of_mem _ h)) (fun h=>h3 (fun e=>by rcases List.mem_cons.1 e with e|e;exact hne e.symm;exact h e))]
   congr 1
   unfold mkD
   rw[h1 a hne]
  ·rw[if_neg hlt,if_neg hlt]
   by_cases he:a=p
   ·subst he
    rw[if_pos rfl,if_pos rfl,List.map_cons]
    have hrest:ks.map (mkD k f)=ks.map (mkD k f'):=List.map_congr_left fun q hq=>by
     have hne:q≠a:=fun e=>by have:=hs.1 q hq;rw[e,ltS_irrefl] at this;cases this
     unfold mkD
     rw[h1 q hne]
    rw[hrest]
    congr 1
    have h4:=h2 List.mem_cons_self
    unfold mkD
    split
    ·rename_i hid;rw[if_pos hid] at h4;rw[h4]
    ·rename_i hid;rw[if_neg hid] at h4;rw[h4]
   ·have h5:=ltS_tri (by simpa using hlt) he
    rw[if_neg he,if_neg he,List.map_cons,List.map_cons]
    have hni:p∉a::ks:=fun e=>by
     rcases List.mem_cons.1 e with e|e
     ·exact he e.symm
     ·have:=ltS_trans h5 (hs.1 p e);rw[ltS_irrefl] at this;cases this
    have hne:∀q∈a::ks,q≠p:=fun q hq e=>hni (e▸hq)
    have hrest:ks.map (mkD k f)=ks.map (mkD k f'):=List.map_congr_left fun q hq=>by
     unfold mkD
     rw[h1 q (hne q (List.mem_cons_of_mem _ hq))]
    rw[hrest]
    unfold mkD
    rw[h3 hni,h1 a (hne a List.mem_cons_self)]
theorem keysS_inc {en:List (Spot×Int)}(hn:(en.map (·.1)).Nodup):(keysS en).Pairwise (fun a b=>ltS a b=true):=by
 have h1:(keysS en).Pairwise (fun a b=>leS a b=true):=List.pairwise_mergeSort leS_trans leS_total _
 have h2:(keysS en).Nodup:=(List.mergeSort_perm _ _).nodup_iff.2 hn
 rw[List.nodup_iff_pairwise_ne] at h2
 refine (h1.and h2).imp ?_
 rintro a b⟨ha,hb⟩
 unfold leS at ha
 exact ltS_tri (by simpa using ha) (fun e=>hb e.symm)
theorem keysS_mem {en:List (Spot×Int)}{p:Spot}:p∈keysS en↔(idOf en p).isSome=true:=by
 rw[←hasK_idOf,hasK_iff]
 exact (List.mergeSort_perm _ _).mem_iff
theorem dotsS_putC (k:Int)(s:Sh)(en:List (Spot×Int))(c:Spot×Int)(hn:(en.map (·.1)).Nodup) :
 dotsS k (putC s en c)=if onS s c.1.1 c.1.2 then rput (dotsS k en) ⟨c.1.1,c.1.2,k,c.2⟩ else dotsS k en:=by
 obtain⟨p,id⟩:=c
 cases hon:onS s p.1 p.2 with
 |false =>
  rw[if_neg (by simp)]
  unfold putC wput
  simp[hon]
 |true =>
  rw[if_pos rfl]
  have hid:∀q,idOf (putC s en (p,id)) q=if q=p then some (lessO id (idOf en p)) else idOf en q:=fun q=>by
   unfold putC
   rw[idOf_wput]
   simp[hon]
  have hks:keysS (putC s en (p,id))=insS (keysS en) p:=by
   have hs:=insS_sorted p (keysS_inc hn)
   refine (keysS_uniq (keysS_perm (putC_nodup s en (p,id) hn) ?_ (fun q=> ?_)) ?_).symm
   ·rw[List.nodup_iff_pairwise_ne]
    exact hs.imp fun {a b} h e=>by subst e;rw[ltS_irrefl] at h;cases h
   ·rw[mem_insS,keysS_mem,←hasK_iff,hasK_idOf,hid]
    split
    ·rename_i h;simp[h]
    ·rename_i h;simp[h]
   ·refine hs.imp fun {a b} h=> ?_
    unfold leS
    cases hb:ltS b a with
    |false=>rfl
    |true=>have:=ltS_trans h hb;rw[ltS_irrefl] at this;cases this
  unfold dotsS
  rw[hks]
  refine (rput_map k (fun q=>(idOf en q).getD 0) (fun q=>(idOf (putC s en (p,id)) q).getD 0) p id (keysS en) (keysS_inc hn) (fun q hq=> ?_) (fun h=> ?_) (fun h=> ?_)).symm
  ·simp only[hid,if_neg hq]
  ·simp only[hid,if_true,Option.getD_some]
   rw[keysS_mem] at h
   cases ho:idOf en p with
   |none=>rw[ho] at h;cases h
   |some o=>rfl
  ·simp only[hid,if_true,Option.getD_some]
   rw[keysS_mem] at h
   cases ho:idOf en p with
   |none=>rfl
   |some o=>rw[ho] at h;exact absurd rfl h
def rputs (k:Int)(s:Sh)(cs:List (Spot×Int))(l:List Dt):List Dt:=cs.foldl (fun l c=>if onS s c.1.1 c.1.2 then rput l ⟨c.1.1,c.1.2,k,c.2⟩ else l) l
theorem rputs_dots (k:Int)(s:Sh):∀(cs:List (Spot×Int))(en:List (Spot×Int)),(en.map (·.1)).Nodup→rputs k s cs (dotsS k en)=dotsS k (cs.foldl (putC s) en)
 |[],_,_=>rfl
 |c::cs,en,hn=>by
  unfold rputs
  rw[List.foldl_cons,List.foldl_cons,←dotsS_putC k s en c hn]
  exact rputs_dots k s cs _ (putC_nodup s en c hn)
end
end Go.Proofs.YtfocdbjceedagaaGreatDoor
namespace Go.Proofs.YtfocdbjceedagaaGreatDoor
open Go.RowKit Go.Shelf
attribute [local go_sem] Oper.semAt_some
attribute [local go_sem ↓] Go.wp_at_zero Go.wp_at_succ
structure Near5 (p:Spot):Prop where
 x0 : -100000≤p.1
 x1:p.1≤100000
 y0 : -100000≤p.2
 y1:p.2≤100000
structure LN (w:World)(B2 B3 base:Nat)(ax ay bx by_:Int)(lv:Value)(l:List Spot)(W:World):Prop where
 k2:Blk W B2 #[.int .i64 ax,.int .i64 ay] 26
 k3:Blk W B3 #[.int .i64 bx,.int .i64 by_] 26
 l2:B2<base
 l3:B3<base
 lw:w.heap.size≤base
 row:W.ownsRow base 26 2 lv l.length (l.flatMap encS)
 below:Below w.heap.size w W
 lb:base≤W.heap.size
section
variable {w W W':World}{B2 B3 base:Nat}{ax ay bx by_:Int}{lv:Value}{l:List Spot}
theorem LN.grown (h:LN w B2 B3 base ax ay bx by_ lv l W)(hg:W.grownBy W' none):LN w B2 B3 base ax ay bx by_ lv l W' :=
 ⟨h.k2.kept hg (by simp),h.k3.kept hg (by simp),h.l2,h.l3,h.lw,by
  refine h.row.kept hg ?_
  rcases h.row.2 with ⟨rfl,_⟩|⟨g,cap,cur,rfl,_⟩
  ·exact .inl rfl
  ·exact .inr (fun e=>by cases e),h.below.grown hg h.below.size (fun k e=>by cases e),Nat.le_trans h.lb hg.size⟩
theorem LN.alloc (h:LN w B2 B3 base ax ay bx by_ lv l W)(o:Obj):LN w B2 B3 base ax ay bx by_ lv l (W.alloc o):=h.grown (World.grownBy_alloc W o none)
theorem LN.b0 (h:LN w B2 B3 base ax ay bx by_ lv l W):W.cell? ⟨B3,0,none⟩=some (.int .i64 bx):=h.k3.cell 0
theorem LN.b1 (h:LN w B2 B3 base ax ay bx by_ lv l W):W.cell? ⟨B3,1,none⟩=some (.int .i64 by_):=h.k3.cell 1
end
def FLine (B2 B3:Nat)(u6:Value)(t N ax ay bx by_ qx qy:Int)(i:Nat)(v:Value)(w:World):Prop :=
 match i with
 |0=>v=u6
 |1=>v= .pointer (some ⟨B2,0,none⟩)
 |2=>v= .int .i64 ax
 |3=>v= .int .i64 t
 |4=>v= .int .i64 (2*t)
 |5=>v= .pointer (some ⟨B3,0,none⟩)
 |6=>v= .int .i64 bx
 |7=>v= .pointer (some ⟨B2,0,none⟩)
 |8=>v= .int .i64 ax
 |9=>v= .int .i64 (bx-ax)
 |10=>v= .int .i64 ((2*t)*(bx-ax))
 |11=>v= .int .i64 N
 |12=>v= .int .i64 (((2*t)*(bx-ax))+N)
 |13=>v= .int .i64 N
 |14=>v= .int .i64 (2*N)
 |15=>v= .int .i64 qx
 |16=>v= .int .i64 (ax+qx)
 |17=>v= .pointer (some ⟨B2,1,none⟩)
 |18=>v= .int .i64 ay
 |19=>v= .int .i64 t
 |20=>v= .int .i64 (2*t)
 |21=>v= .pointer (some ⟨B3,1,none⟩)
 |22=>v= .int .i64 by_
 |23=>v= .pointer (some ⟨B2,1,none⟩)
 |24=>v= .int .i64 ay
 |25=>v= .int .i64 (by_-ay)
 |26=>v= .int .i64 ((2*t)*(by_-ay))
 |27=>v= .int .i64 N
 |28=>v= .int .i64 (((2*t)*(by_-ay))+N)
 |29=>v= .int .i64 N
 |30=>v= .int .i64 (2*N)
 |31=>v= .int .i64 qy
 |32=>v= .int .i64 (ay+qy)
 |33=>v= .agg #[.int .i64 (ax+qx),.int .i64 (ay+qy)]
 |34=>∃L,v= .slice (some ⟨L,0,none⟩) 1 1∧Blk w L #[.int .i64 (ax+qx),.int .i64 (ay+qy)] 26
 |_=>False
theorem FLine.kept {B2 B3:Nat}{u6:Value}{t N ax ay bx by_ qx qy:Int}{i:Nat}{v:Value}{w w':World}(h:FLine B2 B3 u6 t N ax ay bx by_ qx qy i v w)(hg:w.grownBy w' none):FLine B2 B3 u6 t N ax ay bx by_ qx qy i v w':=by
 unfold FLine at *
 split at h
 all_goals first|exact h|(obtain⟨L,h1,h2⟩:=h;exact⟨L,h1,h2.kept hg (by simp)⟩)
end Go.Proofs.YtfocdbjceedagaaGreatDoor
namespace Go.Proofs.YtfocdbjceedagaaGreatDoor
open Go.RowKit Go.Shelf
attribute [local go_sem] Oper.semAt_some
attribute [local go_sem ↓] Go.wp_at_zero Go.wp_at_succ
section
variable {w W W':World}{B2 B3 base:Nat}{ax ay bx by_:Int}{lv:Value}{l:List Spot}
end
end Go.Proofs.YtfocdbjceedagaaGreatDoor
namespace Go.Proofs.YtfocdbjceedagaaGreatDoor
open Tryz
section
open Go Go.RowKit Go.Shelf Go.Lib Go.Sort
/-! ### the order of places -/
theorem lt_iff (a b:Pc):ltOf cmpP a b=true↔(b.wt<a.wt∨(a.wt=b.wt∧a.id<b.id)):=by
 unfold ltOf cmpP compareInt
 simp only[decide_eq_true_eq]
 split <;> (try split at *) <;> (try split at *) <;> (try split at *) <;> omega
theorem lt_not (a b:Pc):ltOf cmpP a b=false↔¬(b.wt<a.wt∨(a.wt=b.wt∧a.id<b.id)):=by
 rw[←lt_iff]
 cases ltOf cmpP a b <;> simp
theorem swoP:SWO (ltOf cmpP):=by
 refine⟨fun x=> ?_,fun x y z h1 h2=> ?_,fun x y z h1 h2=> ?_⟩
 ·rw[lt_not];omega
 ·rw[lt_iff] at *;omega
 ·rw[lt_not] at *;omega
theorem extract_all {α:Type}(d:Array α)(n:Nat)(h:n=d.size):(d.extract 0 n)=d:=by
 subst h
 simp
theorem sortP_perm (l:List Pc):(sortP l).Perm l:=by
 have:=(insertionSort_holds (lt:=ltOf cmpP) swoP l.toArray 0 l.length (Nat.zero_le _) (by simp)).1
 obtain⟨h1,-,h3⟩:=this
 rw[extract_all _ _ (by rw[h1];simp),extract_all _ _ (by simp)] at h3
 exact h3
def PcNodup (l:List Pc):Prop:=(l.map Pc.id).Nodup
theorem PlsOk.nodup {l:List Pc}(h:∀(k:Nat) p,l[k]? =some p→p.id=61+(k:Int)):PcNodup l:=by
 unfold PcNodup
 rw[List.nodup_iff_pairwise_ne,List.pairwise_iff_getElem]
 intro i j hi hj hij
 rw[List.length_map] at hi hj
 rw[List.getElem_map,List.getElem_map,h i l[i] (List.getElem?_eq_getElem hi),h j l[j] (List.getElem?_eq_getElem hj)]
 omega
end
section
open Go.RowKit Go.Shelf Go.Deep
attribute [local go_sem] Oper.semAt_some
attribute [local go_sem ↓] Go.wp_at_zero Go.wp_at_succ
structure Lead (l:List Dt)(x:Dt)(k:Nat):Prop where
 le:k≤l.length
 lt:∀j,(h:j<k)→ltS ((l[j]'(Nat.lt_of_lt_of_le h le)).x,(l[j]'(Nat.lt_of_lt_of_le h le)).y) (x.x,x.y)=true
theorem Lead.zero (l:List Dt)(x:Dt):Lead l x 0:=⟨Nat.zero_le _,fun j h=>absurd h (by omega)⟩
end
section
open Go.RowKit Go.Shelf
theorem dotsS_mem7 {k:Int}{en:List (Spot×Int)}{d:Dt}(h:d∈dotsS k en):(d.x,d.y)∈en.map (·.1):=by
 unfold dotsS at h
 obtain⟨p,hp,rfl⟩:=List.mem_map.1 h
 exact (List.mergeSort_perm _ _).mem_iff.1 hp
def Ent (s:Sh)(en:List (Spot×Int)):Prop:=∃cs:List (Spot×Int),en=cs.foldl (putC s) []
theorem Ent.nil (s:Sh):Ent s []:=⟨[],rfl⟩
theorem Ent.put {s:Sh}{en:List (Spot×Int)}(h:Ent s en)(c:Spot×Int):Ent s (putC s en c):=by
 obtain⟨cs,rfl⟩:=h
 exact⟨cs++[c],by rw[List.foldl_append];rfl⟩
theorem Ent.nodup {s:Sh}{en:List (Spot×Int)}(h:Ent s en):(en.map (·.1)).Nodup:=by
 obtain⟨cs,rfl⟩:=h
 exact fold_nodup s cs [] (by simp)
theorem Ent.len {s:Sh}{en:List (Spot×Int)}(h:Ent s en)(hs:OkS s):(dotsS 2 en).length≤6480:=by
 rw[dotsS_length]
 refine on_length hs h.nodup ?_
 obtain⟨cs,rfl⟩:=h
 exact fold_on s cs [] (by simp)
structure RO (w:World)(s:Sh)(B2 base:Nat)(v:Value)(en:List (Spot×Int))(W:World):Prop where
 sheet:Blk W B2 #[.int .i64 s.ax,.int .i64 s.ay,.int .i64 s.st,.int .i64 s.w,.int .i64 s.h,.int .i64 s.g] 28
 far:B2<base
 row:W.ownsRow base 54 4 v (dotsS 2 en).length ((dotsS 2 en).flatMap encD)
 wb:w.heap.size≤base
 below:Below w.heap.size w W
 lb:base≤W.heap.size
 ent:Ent s en
section
variable {w W W':World}{s:Sh}{B2 base Bw:Nat}{v v':Value}{en en':List (Spot×Int)}{c:Array Value}{lv:Value}{l:List Spot}
theorem RO.grown (h:RO w s B2 base v en W)(hg:W.grownBy W' none):RO w s B2 base v en W' :=
 ⟨h.sheet.kept hg (by simp),h.far,row_other h.row hg (by simp),h.wb,h.below.grown hg h.below.size (fun k e=>by cases e),Nat.le_trans h.lb hg.size,h.ent⟩
theorem RO.alloc (h:RO w s B2 base v en W)(o:Obj):RO w s B2 base v en (W.alloc o):=h.grown (World.grownBy_alloc W o none)
theorem RO.put (h:RO w s B2 base v en W)(hg:W.grownBy W' v.ownBlock)(hrow:W'.ownsRow base 54 4 v' (dotsS 2 en').length ((dotsS 2 en').flatMap encD))(he:Ent s en'):RO w s B2 base v' en' W' :=
 ⟨h.sheet.kept hg (fun e=>by have:=(h.row.lt _ e).1;have:=h.far;omega),h.far,hrow,h.wb,h.below.grown hg h.below.size (fun k e=>by have:=(h.row.lt _ e).1;have:=h.wb;omega),Nat.le_trans h.lb hg.size,he⟩
structure RB (w:World)(s:Sh)(B2 base Bw:Nat)(c:Array Value)(v:Value)(en:List (Spot×Int))(W:World):Prop where
 out:RO w s B2 base v en W
 box:Blk W Bw c 149
theorem RB.grown (h:RB w s B2 base Bw c v en W)(hg:W.grownBy W' none):RB w s B2 base Bw c v en W':=⟨h.out.grown hg,h.box.kept hg (by simp)⟩
theorem RB.put (h:RB w s B2 base Bw c v en W)(hg:W.grownBy W' v.ownBlock)(hrow:W'.ownsRow base 54 4 v' (dotsS 2 en').length ((dotsS 2 en').flatMap encD))(he:Ent s en'):RB w s B2 base Bw c v' en' W' :=
 ⟨h.out.put hg hrow he,h.box.kept hg (blk_apart h.out.row h.box (by decide))⟩
structure RL (w:World)(s:Sh)(B2 base Bw:Nat)(c:Array Value)(lv:Value)(l:List Spot)(v:Value)(en:List (Spot×Int))(W:World):Prop where
 way:RB w s B2 base Bw c v en W
 line:W.ownsRow base 26 2 lv l.length (l.flatMap encS)
theorem RL.grown (h:RL w s B2 base Bw c lv l v en W)(hg:W.grownBy W' none):RL w s B2 base Bw c lv l v en W':=⟨h.way.grown hg,row_other h.line hg (by simp)⟩
theorem RL.put (h:RL w s B2 base Bw c lv l v en W)(hg:W.grownBy W' v.ownBlock)(hrow:W'.ownsRow base 54 4 v' (dotsS 2 en').length ((dotsS 2 en').flatMap encD))(he:Ent s en'):RL w s B2 base Bw c lv l v' en' W' :=
 ⟨h.way.put hg hrow he,row_other h.line hg (rows_apartR h.line h.way.out.row (by decide))⟩
end
def symPts (i j:Int)(r:Nat→Bool):Nat→List Spot
 |0=>[]
 |k+1=>symPts i j r k++(if r k then [symSpot i j k] else [])
def dotPts (i j:Int)(k:Nat)(d:Nat→Bool)(l:List Spot):Nat→List Spot
 |0=>l
 |n+1=>dotPts i j k d l n++(if d n then [cellSpot i j k n] else [])
def cellPts (i j:Int)(D:Nat→Nat→Bool)(l:List Spot):Nat→List Spot
 |0=>l
 |k+1=>dotPts i j k (D k) (cellPts i j D l k) 6
def placePts (i j:Int)(r:Nat→Bool)(D:Nat→Nat→Bool)(n:Nat):List Spot:=cellPts i j D (symPts i j r 9) n
def putA (id:Int)(en:List (Spot×Int))(p:Spot):List (Spot×Int):=putE en p id
theorem symE_pts (i j id:Int)(r:Nat→Bool):∀k,symE i j id r k=(symPts i j r k).foldl (putA id) []
 |0=>rfl
 |k+1=>by
  rw[symE,symPts,List.foldl_append,←symE_pts i j id r k]
  unfold upE
  split <;> rfl
theorem dotE_pts (i j id:Int)(k:Nat)(d:Nat→Bool)(l:List Spot):∀n,dotE i j id k d (l.foldl (putA id) []) n=(dotPts i j k d l n).foldl (putA id) []
 |0=>rfl
 |n+1=>by
  rw[dotE,dotPts,List.foldl_append,←dotE_pts i j id k d l n]
  unfold upE
  split <;> rfl
theorem cellE_pts (i j id:Int)(D:Nat→Nat→Bool)(l:List Spot):∀n,cellE i j id D (l.foldl (putA id) []) n=(cellPts i j D l n).foldl (putA id) []
 |0=>rfl
 |n+1=>by rw[cellE,cellPts,cellE_pts i j id D l n,dotE_pts]
theorem placeE_pts (i j id:Int)(r:Nat→Bool)(D:Nat→Nat→Bool)(n:Nat):placeE i j id r D n=(placePts i j r D n).foldl (putA id) []:=by
 unfold placeE placePts
 rw[symE_pts,cellE_pts]
theorem symPts_len (i j:Int)(r:Nat→Bool):∀k,(symPts i j r k).length≤k
 |0=>yR _
 |k+1=>by
  have:=symPts_len i j r k
  rw[symPts,List.length_append]
  split <;> simp <;> omega
theorem dotPts_len (i j:Int)(k:Nat)(d:Nat→Bool)(l:List Spot):∀n,(dotPts i j k d l n).length≤l.length+n
 |0=>yR _
 |n+1=>by
  have:=dotPts_len i j k d l n
  rw[dotPts,List.length_append]
  split <;> simp <;> omega
theorem cellPts_len (i j:Int)(D:Nat→Nat→Bool)(l:List Spot):∀n,(cellPts i j D l n).length≤l.length+6*n
 |0=>yR _
 |n+1=>by
  have h1:=cellPts_len i j D l n
  have h2:=dotPts_len i j n (D n) (cellPts i j D l n) 6
  rw[cellPts]
  omega
def AllId (id:Int)(en:List (Spot×Int)):Prop:=∀e∈en,e.2=id
theorem putE_allId {id:Int}{en:List (Spot×Int)}(h:AllId id en)(p:Spot):AllId id (putE en p id):=by
 intro e he
 unfold putE at he
 split at he
 ·obtain⟨e',he',rfl⟩:=List.mem_map.1 he
  split
  ·rfl
  ·exact h e' he'
 ·rcases List.mem_append.1 he with he|he
  ·exact h e he
  ·rw[List.mem_singleton.1 he]
theorem putE_same {id:Int}{en:List (Spot×Int)}(h:AllId id en){p:Spot}(hk:hasK en p=true):putE en p id=en:=by
 unfold putE
 rw[if_pos hk]
 conv=>rhs;rw[←List.map_id en]
 refine List.map_congr_left fun e he=> ?_
 split
 ·rename_i hp
  have h1:=h e he
  obtain⟨a,b⟩:=e
  simp only[beq_iff_eq] at hp h1
  rw[←hp,←h1]
  rfl
 ·rfl
theorem idOf_all {id:Int}{en:List (Spot×Int)}(h:AllId id en){p:Spot}(hk:hasK en p=true):(idOf en p).getD 0=id:=by
 rw[hasK_idOf] at hk
 obtain⟨x,hx⟩:=Option.isSome_iff_exists.1 hk
 rw[hx]
 unfold idOf at hx
 obtain⟨e,he,rfl⟩:=Option.map_eq_some_iff.1 hx
 exact h e (List.mem_of_find?_eq_some he)
theorem putE_putC {s:Sh}{id:Int}{en:List (Spot×Int)}(h:AllId id en){p:Spot}(hon:onS s p.1 p.2=true):putE en p id=putC s en (p,id):=by
 unfold putC wput
 simp only[hon,Bool.true_and]
 cases hk:hasK en p with
 |false=>simp
 |true =>
  rw[idOf_all h hk,putE_same h hk]
  simp
theorem fold_putC {s:Sh}{id:Int}:∀(ps:List Spot)(en:List (Spot×Int)),AllId id en→(∀p∈ps,onS s p.1 p.2=true)→ps.foldl (putA id) en=(ps.map fun p=>(p,id)).foldl (putC s) en
 |[],_,_,_=>rfl
 |p::ps,en,h,hon=>by
  rw[List.foldl_cons,List.map_cons,List.foldl_cons,←putE_putC h (hon p List.mem_cons_self)]
  exact fold_putC ps _ (putE_allId h p) (fun q hq=>hon q (List.mem_cons_of_mem _ hq))
theorem fold_keys {id:Int}(q:Spot):∀(ps:List Spot)(en:List (Spot×Int)),q∈(ps.foldl (putA id) en).map (·.1)↔q∈ps∨q∈en.map (·.1)
 |[],en=>by simp
 |p::ps,en=>by
  rw[List.foldl_cons,fold_keys q ps]
  unfold putA
  rw[←hasK_iff,←hasK_iff,hasK_put]
  simp only[List.mem_cons,Bool.or_eq_true,decide_eq_true_eq]
  constructor
  ·rintro (h|h|h) <;> simp[h]
  ·rintro ((h|h)|h) <;> simp[h]
def outP (id:Int)(ps:List Spot):List Dt:=ps.foldl (fun l p=>rput l ⟨p.1,p.2,3,id⟩) []
theorem outP_dots {s:Sh}{id:Int}{ps:List Spot}(hon:∀p∈ps,onS s p.1 p.2=true):outP id ps=dotsS 3 (ps.foldl (putA id) []):=by
 rw[fold_putC ps [] (by intro e he;cases he) hon,←rputs_dots 3 s _ [] (by simp)]
 unfold outP rputs
 rw[List.foldl_map,show dotsS 3 []=[] from by simp[dotsS,keysS]]
 have:∀(ps:List Spot) (l:List Dt),(∀p∈ps,onS s p.1 p.2=true)→ps.foldl (fun l p=>rput l ⟨p.1,p.2,3,id⟩) l=ps.foldl (fun l p=>if onS s p.1 p.2=true then rput l ⟨p.1,p.2,3,id⟩ else l) l:=by
  intro ps
  induction ps with
  |nil=>intros;rfl
  |cons p ps ih =>
   intro l h
   rw[List.foldl_cons,List.foldl_cons,if_pos (h p List.mem_cons_self)]
   exact ih _ (fun q hq=>h q (List.mem_cons_of_mem _ hq))
 exact this ps [] hon
theorem rput_length (x:Dt):∀l:List Dt,(rput l x).length≤l.length+1
 |[]=>yR _
 |d::l=>by
  have:=rput_length x l
  rw[rput]
  split
  ·simp;omega
  ·split <;> simp
theorem outP_length (id:Int)(ps:List Spot):(outP id ps).length≤ps.length:=by
 have h:∀(ps:List Spot) (l:List Dt),(ps.foldl (fun l p=>rput l ⟨p.1,p.2,3,id⟩) l).length≤l.length+ps.length:=by
  intro ps
  induction ps with
  |nil=>intro l;exact yR _
  |cons p ps ih =>
   intro l
   have h1:=ih (rput l ⟨p.1,p.2,3,id⟩)
   have h2:=rput_length ⟨p.1,p.2,3,id⟩ l
   rw[List.foldl_cons,List.length_cons]
   omega
 have:=h ps []
 simpa [outP] using this
theorem outP_mem {s:Sh}{id:Int}{ps:List Spot}(hon:∀p∈ps,onS s p.1 p.2=true):∀d∈outP id ps,onS s d.x d.y=true:=by
 intro d hd
 rw[outP_dots hon] at hd
 have h:=dotsS_mem7 hd
 rw[fold_keys] at h
 rcases h with h|h
 ·exact hon _ h
 ·simp at h
end
end Go.Proofs.YtfocdbjceedagaaGreatDoor
