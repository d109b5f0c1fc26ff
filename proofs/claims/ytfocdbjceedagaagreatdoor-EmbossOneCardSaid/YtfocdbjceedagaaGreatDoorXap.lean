/-
  Parts.
-/
import Derived.Test.YtfocdbjceedagaaGreatDoorXao
import Derived.Shelf.SlSortCmp.NoneTotal
set_option linter.unusedVariables false
set_option linter.unusedSimpArgs false
set_option maxHeartbeats 1000000
namespace Go.Proofs.YtfocdbjceedagaaGreatDoor
open Tryz
section
open Go.RowKit Go.Shelf Go.Maps
attribute [local go_sem] Oper.semAt_some
def Pts (n₀:Nat)(W:World)(sv:Value)(ps:List a0r):Prop :=
 ∃a cap,sv= .slice a ps.length cap∧∀j,(h:j<ps.length)→∃b off,a=some ⟨b,off,none⟩∧b<n₀∧W.cell? ⟨b,off+j*2,none⟩=some (.int .i64 ps[j].1)∧W.cell? ⟨b,off+j*2+1,none⟩=some (.int .i64 ps[j].2)
theorem Pts.below {n₀:Nat}{A B:World}(h:Below n₀ A B){sv:Value}{ps:List a0r}:Pts n₀ A sv ps→Pts n₀ B sv ps
 |⟨a,cap,e,f⟩=>⟨a,cap,e,fun j hj=>by
  obtain⟨b,off,h1,h2,h3,h4⟩:=f j hj;exact⟨b,off,h1,h2,(h.cell (p:=⟨b,off+j*2,none⟩) h2).trans h3,(h.cell (p:=⟨b,off+j*2+1,none⟩) h2).trans h4⟩⟩
theorem Pts.mono {n₀ n₁:Nat}(h:n₀≤n₁){W:World}{sv:Value}{ps:List a0r}:Pts n₀ W sv ps→Pts n₁ W sv ps
 |⟨a,cap,e,f⟩=>⟨a,cap,e,fun j hj=>by
  obtain⟨b,off,h1,h2,h3⟩:=f j hj;exact⟨b,off,h1,by omega,h3⟩⟩
structure Wy where
 id:Int
 line:List a0r
 lv:Value
 lvl:Int
 cls:ByteArray
 nm:ByteArray
 st:Bool
 wt:Int
 di:Int
abbrev Wy.key (y:Wy):Int×List a0r:=(y.id,y.line)
structure WyAt (n₀:Nat)(W:World)(b o:Nat)(y:Wy):Prop where
 c0:W.cell? ⟨b,o,none⟩=some (.int .i64 y.id)
 c1:W.cell? ⟨b,o+1,none⟩=some y.lv
 c2:W.cell? ⟨b,o+2,none⟩=some (.int .i64 y.lvl)
 c3:W.cell? ⟨b,o+3,none⟩=some (.string y.cls)
 c4:W.cell? ⟨b,o+4,none⟩=some (.string y.nm)
 c5:W.cell? ⟨b,o+5,none⟩=some (.bool y.st)
 c6:W.cell? ⟨b,o+6,none⟩=some (.int .i64 y.wt)
 c7:W.cell? ⟨b,o+7,none⟩=some (.int .i64 y.di)
 pts:Pts n₀ W y.lv y.line
theorem WyAt.below {n₀:Nat}{A B:World}(h:Below n₀ A B){b o:Nat}{y:Wy}(hb:b<n₀)(r:WyAt n₀ A b o y):WyAt n₀ B b o y :=
 ⟨(h.cell (p:=⟨b,o,none⟩) hb).trans r.c0,(h.cell (p:=⟨b,o+1,none⟩) hb).trans r.c1,(h.cell (p:=⟨b,o+2,none⟩) hb).trans r.c2,(h.cell (p:=⟨b,o+3,none⟩) hb).trans r.c3,
  (h.cell (p:=⟨b,o+4,none⟩) hb).trans r.c4,(h.cell (p:=⟨b,o+5,none⟩) hb).trans r.c5,(h.cell (p:=⟨b,o+6,none⟩) hb).trans r.c6,(h.cell (p:=⟨b,o+7,none⟩) hb).trans r.c7,r.pts.below h⟩
def Wys (n₀:Nat)(W:World)(sv:Value)(ws:List Wy):Prop :=
 ∃a cap,sv= .slice a ws.length cap∧∀j,(h:j<ws.length)→∃b off,a=some ⟨b,off,none⟩∧b<n₀∧WyAt n₀ W b (off+j*8) ws[j]
theorem Wys.below {n₀:Nat}{A B:World}(h:Below n₀ A B){sv:Value}{ws:List Wy}:Wys n₀ A sv ws→Wys n₀ B sv ws
 |⟨a,cap,e,f⟩=>⟨a,cap,e,fun j hj=>by
  obtain⟨b,off,h1,h2,h3⟩:=f j hj;exact⟨b,off,h1,h2,h3.below h h2⟩⟩
theorem WyAt.mono {n₀ n₁:Nat}(h:n₀≤n₁){W:World}{b o:Nat}{y:Wy}(r:WyAt n₀ W b o y):WyAt n₁ W b o y:=⟨r.c0,r.c1,r.c2,r.c3,r.c4,r.c5,r.c6,r.c7,r.pts.mono h⟩
theorem Wys.mono {n₀ n₁:Nat}(h:n₀≤n₁){W:World}{sv:Value}{ws:List Wy}:Wys n₀ W sv ws→Wys n₁ W sv ws
 |⟨a,cap,e,f⟩=>⟨a,cap,e,fun j hj=>by
  obtain⟨b,off,h1,h2,h3⟩:=f j hj;exact⟨b,off,h1,by omega,h3.mono h⟩⟩
theorem Wys.up {n₀:Nat}{A B:World}{sv:Value}{ws:List Wy}(h:Wys n₀ A sv ws)(hb:Below n₀ A B)(hn:n₀≤B.heap.size):Wys B.heap.size B sv ws:=(h.below hb).mono hn
theorem b6p (lv:Value)(ps:List a0r)(n₀:Nat)(W:World)(h:Pts n₀ W lv ps)(hn:n₀≤W.heap.size)(hl:ps.length≤1000) :
 Calls prog 80 #[lv,.func (.func 81) #[] #[]] W fun e w'=>e= .returned (.bool (!a9e ps))∧Below W.heap.size W w':=by
 have e31:∀args w,(callFunc 81 args).run prog w= .ok (.enter 81 args) w:=enters_of func81 (by kernel_rfl) rfl;have hr:(ps.any fun x=> !a3a x.1 x.2)= !a9e ps:=by
  unfold a9e;rw[List.any_eq_not_all_not];simp
 obtain⟨a,cap,rfl,f⟩:=h;by_cases h0:ps=[]
 ·subst h0
  rw[←hr];simp only[List.any_nil];have hem:∀w,Calls prog 138 #[.slice a 0 cap,.func (.func 81) #[] #[]] w fun e w'=>e= .returned (.int .i64 (-1))∧w=w':=by
   intro w;go_enter func138,ntmps138;go_wp2_with fail;refine wp_loop_rounds 1 ?_;rw[rounds_succ];go_wp2_with fail;go_ret;exact⟨rfl,rfl⟩
  go_enter func80,ntmps80;go_wp2_with (go_at_call 138;refine (hem _).mono ?_;rintro e w'⟨rfl,rfl⟩);go_ret;exact⟨rfl,zR _ _⟩
 ·have hpos:0<ps.length:=List.length_pos_iff.2 h0
  obtain⟨b,off,rfl,hb,-⟩:=f 0 hpos;have h:=AnyQ.slices_ContainsFunc Go.Proofs.Tryz.pointsContains 2 isAgg26 sizeOf26 b7v (fun _=>rfl) (fun x=> !a3a x.1 x.2) 81 #[] e31 b off ps.length cap ps W
   (fun W' x hb=>(b0n x.1 x.2 W').mono fun _ _ ⟨he,hb2⟩=>⟨he,hb.trans (hb2.mono hb.size)⟩) (yR _) (by omega) (by omega) (fun j hj i v hi=>by
    obtain⟨b',off',e,-,c0,c1⟩:=f j hj;simp only[Option.some.injEq,Addr.mk.injEq,and_true] at e;obtain⟨rfl,rfl⟩:=e;rw[getElem!_pos ps j hj] at hi;match i,hi with
    |0,hi=>exact c0.trans hi
    |1,hi=>exact c1.trans hi
    |i+2,hi=>simp at hi)
  rw[List.take_length,hr] at h;exact h
def mark (D:Nat):Deferred:={ target:= .collected D,args:= #[] }
structure Marks (Bm:Nat)(ds:List Nat)(W:World):Prop where
 is:∀D∈ds,W.heap[D]? =some (.deferred (some []))
 high:∀D∈ds,Bm<D
 nd:ds.Nodup
theorem Marks.nil (Bm:Nat)(W:World):Marks Bm [] W:=⟨by simp,by simp,by simp⟩
theorem Marks.kept {Bm:Nat}{ds:List Nat}{W W':World}{row:Option Nat}(h:Marks Bm ds W)(hg:W.grownBy W' row)(hr:∀r,row=some r→r≤Bm∨W.heap.size≤r):Marks Bm ds W' :=
 ⟨fun D hD=>(hg.block D (Array.getElem?_eq_some_iff.1 (h.is D hD)).1 (fun e=>by
  have h1:=(Array.getElem?_eq_some_iff.1 (h.is D hD)).1;have h2:=h.high D hD;rcases hr D e.symm with h3|h3 <;> omega)).trans (h.is D hD),h.high,h.nd⟩
theorem Marks.cons {Bm D:Nat}{ds:List Nat}{W:World}(h:Marks Bm ds W)(hD:W.heap[D]? =some (.deferred (some [])))(h1:Bm<D)(h2:D∉ds):Marks Bm (D::ds) W :=
 ⟨fun E hE=>by rcases List.mem_cons.1 hE with rfl|hE;exact hD;exact h.is E hE,fun E hE=>by rcases List.mem_cons.1 hE with rfl|hE;exact h1;exact h.high E hE,List.nodup_cons.2 ⟨h2,h.nd⟩⟩
theorem a9g {F:Fence}{n:Nat}{P:Program}{fn:Func}{tmps:Array Value}{R:Ending→World→Prop}{Bm:Nat}(Pr:World→Prop)
 (hPr:∀W D,Pr W→Bm<D→W.heap[D]? =some (.deferred (some []))→Pr (W.putObj D (.deferred none))) (hend:∀W,Pr W→LeavesIn F n P fn tmps R [] .returning W) :
 ∀(ds:List Nat) (W:World),Marks Bm ds W→Pr W→LeavesInM F n P fn tmps R (ds.map mark) .returning W
 |[],W,_,hp=>hend W hp
 |D::ds,W,hm,hp=>by
  have hD:=hm.is D List.mem_cons_self;have hh:=hm.high D List.mem_cons_self;have hnd:=List.nodup_cons.1 hm.nd;refine⟨by simp,.inl ⟨D,_,rfl,run_takeDeferred hD,?_⟩⟩;refine a9g Pr hPr hend ds _ ⟨fun E hE=> ?_,fun E hE=>hm.high E (List.mem_cons_of_mem _ hE),hnd.2⟩ (hPr W D hp hh hD);exact (World.putObj_heap_other (o:= .deferred none) (w:=W) (show E≠D from fun e=>hnd.1 (e▸hE))).trans (hm.is E (List.mem_cons_of_mem _ hE))
end
section
open Go.RowKit Go.Shelf Go.Sort Go.Lib Go.Maps
attribute [local go_sem] Oper.semAt_some
attribute [local go_sem ↓] Go.wp_at_zero Go.wp_at_succ
theorem b4a (fv:Value)(w:World):Calls prog 161 #[.slice none 0 0,fv] w fun e w'=>e= .returned (.tuple #[])∧w'=w:=by
 have h:=AnyF.slices_SortFunc_none Go.Proofs.Tryz.sortSpot none 0 fv w;exact h
theorem b1d (Bm b nn:Nat)(w:World)(hBm:Bm<w.heap.size)(hm:w.cell? ⟨Bm,0,none⟩=some (.map (some b)))(hM:MapIs w b nn [])(hnn:nn≤4294967296) :
 Calls prog 123 #[.func (.func 162) #[] #[.pointer (some ⟨Bm,0,none⟩)],.func (.func 125) #[] #[]] w fun e w'=>e= .returned (.slice none 0 0)∧Below w.heap.size w w':=by
 have eg:∀args w,(callFunc 162 args).run prog w= .ok (.enter 162 args) w:=enters_of func162 (by kernel_rfl) rfl;have hcol:=(callsIn_wide (n:=3)).1 (b2m _ 3 trivial trivial rfl (yR _) 162 #[.pointer (some ⟨Bm,0,none⟩)] trivial eg _ _ nn hnn w (b2n _ 1 trivial rfl (yR _) Bm b nn [] w hBm hm hM));go_enter func123,ntmps123;go_wp2_with (go_at_call 160;refine hcol.mono ?_;rintro e w1⟨v,ss,rfl,⟨hs1,hs2⟩,hrow,hnl,hb1⟩;obtain rfl:v= .slice none 0 0:=hnl.2 (List.eq_nil_iff_forall_not_mem.2 (fun p hp=>by simpa using (hs2 p).1 hp)));clear hcol;go_wp2_with (go_at_call 161;refine (b4a _ _).mono ?_;rintro e w2⟨rfl,rfl⟩);go_ret;exact⟨rfl,hb1⟩
theorem b6q (kind:Int)(b nn:Nat)(w:World)(hM:MapIs w b nn [])(hnn:nn≤4294967296) :
 Calls prog 68 #[.map (some b),.int .i64 kind] w fun e w'=>e= .returned (.slice none 0 0)∧Below w.heap.size w w':=by
 have hkeys:=fun mb W=>(callsIn_wide (n:=1)).1 (c3s _ 1 trivial rfl mb W)
 have hsf:=b1d w.heap.size b nn (w.alloc (.cells #[.map (some b)] 117)) (by simp) (by simp) (hM.alloc _) hnn;simp only[World.size_alloc] at hsf;go_enter func68,ntmps68;go_wp2_with (first|(go_at_call 124;refine (hkeys _ _).mono ?_;rintro e w1⟨rfl,rfl⟩)|(go_at_call 123;refine hsf.mono ?_;rintro e w2⟨rfl,hb2⟩));have hB2:RowKit.Below w.heap.size w w2:=Below.trans (b:=w.alloc (.cells #[.map (some b)] 117)) zC (hb2.mono zC);refine wp_loop_rounds 1 ?_;rw[rounds_succ];go_wp2_with fail;go_ret;exact⟨rfl,hB2⟩
theorem b8v (kind:Int)(b nn:Nat)(en:List (a0r×Int))(w:World)(hM:MapIs w b nn en)(hnn:nn≤4294967296)(hlen:en.length≤8388608) :
 Calls prog 68 #[.map (some b),.int .i64 kind] w fun e w'=>∃v base,e= .returned v∧w.heap.size≤base∧w'.ownsRow base 54 4 v (a2d kind en).length ((a2d kind en).flatMap b5y)∧RowKit.Below w.heap.size w w':=by
 by_cases hne:en=[]
 ·subst hne
  refine (b6q kind b nn w hM hnn).mono ?_;rintro e w'⟨rfl,hb⟩;have hl:(a2d kind []).length=0:=a4f _ _;have h0:a2d kind []=[]:=List.eq_nil_of_length_eq_zero hl;rw[h0];exact⟨_,w'.heap.size,rfl,hb.size,⟨by simp,.inl ⟨rfl,rfl⟩⟩,hb⟩
 ·exact b0l kind b nn en w hM hnn hne hlen
end
section
open Go.RowKit Go.Shelf
attribute [local go_sem] Oper.semAt_some
def c6v:Array Value:= #[.int .i64 1,.int .i64 3,.int .i64 9,.int .i64 25,.int .i64 17,.int .i64 11,.int .i64 27,.int .i64 19,.int .i64 10,.int .i64 26,.int .i64 5,.int .i64 7,.int .i64 13,.int .i64 29,.int .i64 21,.int .i64 15,.int .i64 31,.int .i64 23,.int .i64 14,.int .i64 30,.int .i64 37,.int .i64 39,.int .i64 58,.int .i64 45,.int .i64 61,.int .i64 53]
end
section
open Go.RowKit Go.Shelf
attribute [local go_sem] Oper.semAt_some
@[local simp] theorem l0:c6v[0]? =some (.int .i64 1):=rfl
@[local simp] theorem l1:c6v[1]? =some (.int .i64 3):=rfl
@[local simp] theorem l2:c6v[2]? =some (.int .i64 9):=rfl
@[local simp] theorem l3:c6v[3]? =some (.int .i64 25):=rfl
@[local simp] theorem l4:c6v[4]? =some (.int .i64 17):=rfl
@[local simp] theorem l5:c6v[5]? =some (.int .i64 11):=rfl
@[local simp] theorem l6:c6v[6]? =some (.int .i64 27):=rfl
@[local simp] theorem l7:c6v[7]? =some (.int .i64 19):=rfl
@[local simp] theorem l8:c6v[8]? =some (.int .i64 10):=rfl
@[local simp] theorem l9:c6v[9]? =some (.int .i64 26):=rfl
attribute [local go_sem] l0 l1 l2 l3 l4 l5 l6 l7 l8 l9
end
section
open Go.RowKit Go.Shelf
theorem a0a {b:Act}{k:Nat}{v:Value}(h:b.eval (.tmp k)=v):b.tmps[k]?.getD undef=v:=by
 rw[←h];simp[Act.eval]
theorem b8w (W:World):W.grownBy W.drew none:=⟨rfl,rfl,rfl,yR _,fun _ _ _=>rfl⟩
end
section
open Go Go.RowKit
theorem a8k {F:Fence}{n:Nat}{P:Program}{α:Type}{g:Operand}{ps:Array Tmp}{assign body:Code}{Q:Exit→Act→World→Prop}{a:Act}{w:World}
 (hro:F.round=none) (h1:1≤n) {gf:Nat} {lb:Array Value} (hg:a.eval g= .func (.func gf) #[] lb) (hFg:F.fn gf) (eg:∀args w,(callFunc gf args).run P w= .ok (.enter gf args) w)
 {encs:α→Array Value} {C:World→Nat→Prop} (hC:∀(W:World) (l k:Nat) (o o':Obj),W.heap[l]? =some o→a5u o=true→a5u o'=true→(C (W.putObj l o') k↔C W k)) (hCl:∀(W:World) (l:Nat) (o:Obj),W.heap[l]? =some o→a5u o=true→¬C W l)
 (hCa:∀(W:World) (k:Nat) (o:Obj),C (W.alloc o) k→a5u o=true→C W k) (hC0:∀k,C w k→k<w.heap.size)
 {n0:Nat} (hn0:n0≤w.heap.size) {Kx:List α→α→World→Prop} (hKp:∀pre x (W:World) (l:Nat) (o o':Obj),W.heap[l]? =some o→a5u o=true→a5u o'=true→Kx pre x W→Kx pre x (W.putObj l o')) {S:List α→Prop} {N:Nat} {w0:World} (hseq:d2n F (n-1) P gf lb encs C n0 Kx S N w0) (hb0:Below w0.heap.size w0 w) (hps:∀x,(encs x).size=ps.size)
 (I:List α→World→Prop) (hI:∀pre A A' row,I pre A→A.grownBy A' row→(∀r,row=some r→w.heap.size≤r∧¬C A r)→I pre A') (hIC:∀pre A A' row k,I pre A→A.grownBy A' row→(∀r,row=some r→¬C A r)→C A' k→C A k) (h0:I [] w) (Ip:List PanicEntry→World→Prop) (hfs:∀ch W,Ip ch W→∀fn,F.fn fn→∃x,P.funcs[fn]? =some x) (tb:TypeId) (bx:α→Array Value) (hKa:∀pre x (W:World) (o:Obj),Kx pre x W→Kx pre x (W.alloc o)) (hCs:∀pre W k,I pre W→C W k→k<W.heap.size) (a₁:α→Nat→Act)
 (hassign:∀(l:Nat) (pre:List α) (x:α) (W:World) (K:Act→World→Prop),Kx pre x W→K (a₁ x W.heap.size) (W.alloc (.cells (bx x) tb))→assign.wpIn (F.inRound l) (n-1-1) P (Exit.then K (fun _ _ _=>False)) { tmps:=(ps.zip (encs x)).foldl (fun t (p,v)=>t.setIfInBounds p v) a.tmps,defers:=[] } W)
 (hbody:∀(l:Nat) (pre:List α) (x:α) (W:World) (B:Nat),I pre W→Kx pre x W→Blk W B (bx x) tb→w.heap.size≤B→(∀k,C W k→k≠B)→pre.length<N→body.wpIn (F.inRound l) (n-1-1) P (fun e a' W'=>(e= .normal∧KeepP C n0 W W'∧I (pre++[x]) W')∨∃ch,e= .panic ch∧a'.defers=[]∧KeepP C n0 W W'∧Ip ch W') (a₁ x B) W)
 (hpan:∀(D:Nat) (ch:List PanicEntry) (W:World),w.heap.size≤D→Ip ch W→W.heap[D]? =some (.deferred (some []))→Q (.panic ch) { a with defers:={ target:= .collected D,args:= #[] }::a.defers } W)
 (hdone:∀(D:Nat) (xs:List α) (W:World),w.heap.size≤D→S xs→I xs W→W.heap[D]? =some (.deferred (some []))→Q .normal { a with defers:={ target:= .collected D,args:= #[] }::a.defers } W) :
 (Code.rangeFunc g ps assign body).wpIn F n P Q a w:=by
 refine wpIn_rangeFunc fun fn hfn=> ?_
 rw[hro]
 -- the two blocks of the statement: the rounds' deferred calls, and the loop's record, in its states
 obtain⟨D,hD⟩:∃D,w.heap.size=D:=⟨_,rfl⟩;let R:LoopState→Option Code→Loop:=fun st pe=>{ state:=st,pending:=pe,fn,tmps:=a.tmps,params:=ps,assign,body,defers:=D }
 let W1:World:=(w.alloc (.deferred (some []))).alloc (.loop (R .ready none))
 have s1:W1.heap.size=D+2:=by simp[W1,hD]
 have g1:w.grownBy W1 none:=by
  have e1:=World.grownBy_alloc w (.deferred (some [])) none;have e2:=World.grownBy_alloc (w.alloc (.deferred (some []))) (.loop (R .ready none)) none;exact⟨e2.os.trans e1.os,e2.tape.trans e1.tape,e2.output.trans e1.output,Nat.le_trans e1.size e2.size,fun k hk hn=>(e2.block k (by simp;omega) hn).trans (e1.block k hk hn)⟩
 have l1:W1.heap[D+1]? =some (.loop (R .ready none)):=by
  have:=World.alloc_heap_new (w.alloc (.deferred (some []))) (.loop (R .ready none));rwa [World.size_alloc,hD] at this
 have d1:W1.heap[D]? =some (.deferred (some [])):=by
  have:=(Below.heap_alloc (w.alloc (.deferred (some []))) (.loop (R .ready none)) w.heap.size (by simp)).trans (World.alloc_heap_new w _);rwa [hD] at this
 have hCW:∀k,C W1 k→k<W1.heap.size:=fun k hk=>by
  have:=hC0 k (hCa _ k _ (hCa _ k _ hk rfl) rfl);omega
 refine⟨D+1,[{ target:= .collected D,args:= #[] }],W1,{ target:= .fn (.func gf) lb,args:= #[.func (.yield (D+1)) #[] #[]] },W1,gf,#[.func (.yield (D+1)) #[] #[]]++lb,W1,?_,?_,?_,?_,fun _=>h1,?_⟩
 ·subst hD
  exact run_enterLoop_outer _ _ _ _ _
 ·simp only[resolve,hg]
  simp[go_sem]
 ·intro f' hf'
  simp[Target.leads] at hf';subst hf';exact hFg
 ·simp[invoke,go_sem,eg]
 ·have hb1:Below w0.heap.size w0 W1:=hb0.trans ((show Below w.heap.size w W1 from ⟨g1.os,g1.tape,g1.output,g1.size,fun k hk=>g1.block k hk (by simp)⟩).mono hb0.size)
  refine (hseq (D+1) (fun pre W=>I pre W∧W.heap[D+1]? =some (.loop (R .ready none))∧W.heap[D]? =some (.deferred (some []))) (fun ch W=>Ip ch W∧W.heap[D]? =some (.deferred (some []))) W1 hb1 ?_ (fun s A A' row k hJ=>hIC s A A' row k hJ.1) hCW ?_ ⟨hI [] w W1 none h0 g1 (by simp),l1,d1⟩).mono ?_
  ·rintro s A A' row⟨hi,hl,hd⟩ hgr hr
   have hne:∀k,k<D+2→some k≠row:=fun k hk e=>by have:=(hr k e.symm).1;omega
   exact⟨hI s A A' row hi hgr (fun r e=>⟨by have:=(hr r e).1;omega,(hr r e).2⟩),(hgr.block _ (Array.getElem?_eq_some_iff.1 hl).1 (hne _ (by omega))).trans hl,(hgr.block _ (Array.getElem?_eq_some_iff.1 hd).1 (hne _ (by omega))).trans hd⟩
  ·rintro pre x W⟨hi,hl,hd⟩ hkx hlen
   have hlt:D+1<W.heap.size:=(Array.getElem?_eq_some_iff.1 hl).1;have hy:=run_yield (P:=P) (args:=encs x) hl (hps x);refine⟨fn,_,assign,body,hy,b6n hfn (fun ch w hR=>hR.elim (fun h=>nomatch h.1) (fun h=>by obtain⟨ch',h1,h2⟩:=h;cases h1;exact hfs ch w h2.1 fn hfn)) (hassign _ pre x W _ hkx ?_)⟩;have hgA:W.grownBy (W.alloc (.cells (bx x) tb)) none:=World.grownBy_alloc W _ none;obtain⟨Wa,hWa⟩:∃Wa,W.alloc (.cells (bx x) tb)=Wa:=⟨_,rfl⟩;have hsa:Wa.heap.size=W.heap.size+1:=by rw[←hWa];simp
   have hba:∀k,k<W.heap.size→Wa.heap[k]? =W.heap[k]? :=fun k hk=>by rw[←hWa];exact hgA.block k hk (by simp)
   have hka:Blk Wa W.heap.size (bx x) tb:=by rw[←hWa];exact Blk.new _ _ _
   have hia:I pre Wa:=by rw[←hWa];exact hI pre W _ none hi hgA (by simp)
   have hca:∀k,C Wa k→C W k:=fun k hk=>by rw[←hWa] at hk;exact hIC pre W _ none k hi hgA (by simp) hk
   have hxa:Kx pre x Wa:=by rw[←hWa];exact hKa pre x W _ hkx
   have hla:Wa.heap[D+1]? =some (.loop (R .ready none)):=(hba _ hlt).trans hl;have hda:Wa.heap[D]? =some (.deferred (some [])):=(hba _ (by omega)).trans hd;have hlW:W.heap[D+1]? =some (.loop (R .ready none)):=hl;have hsz:D+1<W.heap.size:=hlt;have hbWa:Below n0 W Wa:=by rw[←hWa];exact a1i hgA (by omega) (fun r e=>by cases e)
   rw[hWa];refine⟨_,run_beginRound hla rfl,?_⟩;obtain⟨W2,hW2⟩:∃W2,Wa.putObj (D+1) (.loop { R .ready none with state:= .busy })=W2:=⟨_,rfl⟩;have hlta:D+1<Wa.heap.size:=by omega
   have hl2:W2.heap[D+1]? =some (.loop { R .ready none with state:= .busy }):=by rw[←hW2];exact World.putObj_heap_same hlta
   have hd2:W2.heap[D]? =some (.deferred (some [])):=by rw[←hW2];exact (World.putObj_heap_other (by omega)).trans hda
   have hi2:I pre W2:=by
    rw[←hW2];exact hI pre Wa _ (some (D+1)) hia (grownBy_putObj' Wa _ _) (fun r e=>by cases e;exact⟨by omega,hCl Wa _ _ hla rfl⟩)
   have hkx2:Kx pre x W2:=by rw[←hW2];exact hKp pre x Wa _ _ _ hla rfl rfl hxa
   have hbW:Below n0 W W2:=hbWa.trans (by rw[←hW2];exact a1i (grownBy_putObj' Wa (D+1) _) (by omega) (fun r e=>by cases e;omega));have hs2:W2.heap.size=W.heap.size+1:=by rw[←hW2,←hsa];simp
   have hc2:∀k,C W2 k→C W k:=fun k h=>by rw[←hW2] at h;exact hca k ((hC Wa _ k _ _ hla rfl rfl).1 h)
   have hb2:∀k,k<W.heap.size→k≠D+1→W2.heap[k]? =W.heap[k]? :=fun k hk hne=>by rw[←hW2];exact (World.putObj_heap_other hne).trans (hba k hk)
   have hB2:Blk W2 W.heap.size (bx x) tb:=by rw[←hW2];exact (World.putObj_heap_other (by omega)).trans hka
   show body.wpIn (F.inRound (D+1)) (n-1-1) P _ _ (Wa.putObj (D+1) (.loop { R .ready none with state:= .busy }));rw[hW2];refine wpIn_mono (hbody _ pre x W2 W.heap.size hi2 hkx2 hB2 (by omega) (fun k hk=>by have:=hCs pre W k hi (hc2 k hk);omega) hlen) ?_;rintro e a3 W3 (⟨rfl,⟨hk,hkb⟩,hi3⟩|⟨ch,rfl,hd0,⟨hk,hkb⟩,hp3⟩)
   rotate_left
   ·exact⟨hd0,.inr ⟨ch,rfl,hp3,(hk.same _ (by omega) (hCl W2 _ _ hd2 rfl)).trans hd2⟩⟩
   have hl3:W3.heap[D+1]? =some (.loop { R .ready none with state:= .busy }):=(hk.same _ (by omega) (hCl W2 _ _ hl2 rfl)).trans hl2;have hd3:W3.heap[D]? =some (.deferred (some [])):=(hk.same _ (by omega) (hCl W2 _ _ hd2 rfl)).trans hd2;have hlt3:D+1<W3.heap.size:=(Array.getElem?_eq_some_iff.1 hl3).1;have hr:=run_endRound (P:=P) none hl3;refine⟨_,_,hr,.inl ⟨rfl,⟨?_,World.putObj_heap_same hlt3,(World.putObj_heap_other (by omega)).trans hd3⟩,⟨⟨?_,fun k hlk hnc=> ?_,fun k hc=> ?_⟩,(hbW.trans hkb).trans (a1i (grownBy_putObj' W3 (D+1) _) (by have:=hbW.size;have:=hkb.size;omega) (fun r e=>by cases e;omega))⟩⟩⟩
   ·exact hI _ W3 _ (some (D+1)) hi3 (grownBy_putObj' W3 _ _) (fun r e=>by cases e;exact⟨by omega,hCl W3 _ _ hl3 rfl⟩)
   ·have:=hk.size
    rw[hs2] at this;simp;omega
   ·by_cases hkl:k=D+1
    ·subst hkl
     rw[hl];exact World.putObj_heap_same hlt3
    ·exact (World.putObj_heap_other hkl).trans ((hk.same k (by omega) (fun h=>hnc (hc2 k h))).trans (hb2 k hlk hkl))
   ·rcases hk.mine k ((hC W3 _ k _ _ hl3 rfl rfl).1 hc) with h|h
    ·exact .inl (hc2 k h)
    ·exact .inr (by omega)
  ·rintro e W2 (⟨⟨v,rfl⟩,xs,hS,hi,hl,hd⟩|⟨ch,rfl,hp,hd⟩)
   rotate_left
   ·exact hpan D ch W2 (by omega) hp hd
   have hr:=run_endLoop (P:=P) hl (by simp[R]);refine⟨none,_,hr,?_⟩;exact hdone D xs _ (by omega) hS (hI _ W2 _ (some (D+1)) hi (grownBy_putObj' W2 _ _) (fun r e=>by cases e;exact⟨by omega,hCl W2 _ _ hl rfl⟩)) ((World.putObj_heap_other (by omega)).trans hd)
theorem a7v {F:Fence}{n:Nat}{P:Program}{α:Type}{g:Operand}(slot sbox:Nat)(encV:α→Value){assign body:Code}{Q:Exit→Act→World→Prop}{a:Act}{w:World}
 (hro:F.round=none) (h1:1≤n) {gf:Nat} {lb:Array Value} (hg:a.eval g= .func (.func gf) #[] lb) (hFg:F.fn gf) (eg:∀args w,(callFunc gf args).run P w= .ok (.enter gf args) w)
 {C:World→Nat→Prop} (hC:∀(W:World) (l k:Nat) (o o':Obj),W.heap[l]? =some o→a5u o=true→a5u o'=true→(C (W.putObj l o') k↔C W k)) (hCl:∀(W:World) (l:Nat) (o:Obj),W.heap[l]? =some o→a5u o=true→¬C W l)
 (hCa:∀(W:World) (k:Nat) (o:Obj),C (W.alloc o) k→a5u o=true→C W k) (hC0:∀k,C w k→k<w.heap.size)
 {n0:Nat} (hn0:n0≤w.heap.size) {Kx:List α→α→World→Prop} (hKp:∀pre x (W:World) (l:Nat) (o o':Obj),W.heap[l]? =some o→a5u o=true→a5u o'=true→Kx pre x W→Kx pre x (W.putObj l o')) {S:List α→Prop} {N:Nat} {w0:World} (hseq:d2n F (n-1) P gf lb (fun x=> #[encV x]) C n0 Kx S N w0) (hb0:Below w0.heap.size w0 w)
 (I:List α→World→Prop) (hI:∀pre A A' row,I pre A→A.grownBy A' row→(∀r,row=some r→w.heap.size≤r∧¬C A r)→I pre A') (hIC:∀pre A A' row k,I pre A→A.grownBy A' row→(∀r,row=some r→¬C A r)→C A' k→C A k) (h0:I [] w) (Ip:List PanicEntry→World→Prop) (hfs:∀ch W,Ip ch W→∀fn,F.fn fn→∃x,P.funcs[fn]? =some x) (tb:TypeId) (bx:α→Array Value) (hKa:∀pre x (W:World) (o:Obj),Kx pre x W→Kx pre x (W.alloc o)) (hCs:∀pre W k,I pre W→C W k→k<W.heap.size)
 (hassign:∀(l:Nat) (pre:List α) (x:α) (W:World) (K:Act→World→Prop),Kx pre x W→(∀a',a'={ tmps:=(a.tmps.setIfInBounds slot (encV x)).setIfInBounds sbox (.pointer (some ⟨W.heap.size,0,none⟩)),defers:=[] }→K a' (W.alloc (.cells (bx x) tb)))→assign.wpIn (F.inRound l) (n-1-1) P (Exit.then K (fun _ _ _=>False)) { tmps:=a.tmps.setIfInBounds slot (encV x),defers:=[] } W)
 (hbody:∀(l:Nat) (pre:List α) (x:α) (W:World) (B:Nat),I pre W→Kx pre x W→Blk W B (bx x) tb→w.heap.size≤B→(∀k,C W k→k≠B)→pre.length<N→body.wpIn (F.inRound l) (n-1-1) P (fun e a' W'=>(e= .normal∧KeepP C n0 W W'∧I (pre++[x]) W')∨∃ch,e= .panic ch∧a'.defers=[]∧KeepP C n0 W W'∧Ip ch W') ({ tmps:=(a.tmps.setIfInBounds slot (encV x)).setIfInBounds sbox (.pointer (some ⟨B,0,none⟩)),defers:=[] }:Act) W)
 (hpan:∀(D:Nat) (ch:List PanicEntry) (W:World),w.heap.size≤D→Ip ch W→W.heap[D]? =some (.deferred (some []))→Q (.panic ch) { a with defers:={ target:= .collected D,args:= #[] }::a.defers } W)
 (hdone:∀(D:Nat) (xs:List α) (W:World),w.heap.size≤D→S xs→I xs W→W.heap[D]? =some (.deferred (some []))→Q .normal { a with defers:={ target:= .collected D,args:= #[] }::a.defers } W) :
 (Code.rangeFunc g #[slot] assign body).wpIn F n P Q a w :=
 a8k hro h1 hg hFg eg hC hCl hCa hC0 hn0 hKp hseq hb0 (fun _=>rfl) I hI hIC h0 Ip hfs tb bx hKa hCs (fun x B=>{ tmps:=(a.tmps.setIfInBounds slot (encV x)).setIfInBounds sbox (.pointer (some ⟨B,0,none⟩)),defers:=[] }) (fun l pre x W K hx hK=>by simpa using hassign l pre x W K hx fun a' ha=>ha▸hK) hbody hpan hdone
end
end Go.Proofs.YtfocdbjceedagaaGreatDoor
