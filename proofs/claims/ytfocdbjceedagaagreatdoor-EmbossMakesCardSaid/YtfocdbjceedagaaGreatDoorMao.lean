/-
  Parts.
-/
import Derived.Test.YtfocdbjceedagaaGreatDoorMan
set_option linter.unusedVariables false
set_option linter.unusedSimpArgs false
set_option maxHeartbeats 8000000
set_option maxRecDepth 100000
namespace Go.Proofs.YtfocdbjceedagaaGreatDoor
open Tryz
section
open Go.RowKit Go.Shelf
attribute [local go_sem] Oper.semAt_some
attribute [local go_sem ↓] Go.wp_at_zero Go.wp_at_succ
abbrev a9o :=List (Nat×Array Value×TypeId)
abbrev SlL :=List (TypeId×Value×Nat)
structure DY (n₀ D:Nat)(sv:Value)(xs:List Int)(S0:BS)(W0:World)(S:BS)(W:World)(L:a9o)(T:SlL):Prop where
 st:ST n₀ D sv xs S0 W0 S W
 bx:∀p∈L,Blk W p.1 p.2.1 p.2.2/\¬S p.1/\p.1≠D/\W0.heap.size<=p.1
 ne:(L.map (·.1)).Nodup
 sl:∀q∈T,SL S W q.1 q.2.1 q.2.2
section
variable {n₀ D:Nat}{sv:Value}{xs:List Int}{S0 S S':BS}{W0 W W':World}{L:a9o}{T:SlL}{B B2 B3:Nat}{c c2 c3:Array Value}{t t2 t3:TypeId}{p:Nat×Array Value×TypeId}
theorem TD.dw (h:TD S n₀ D sv xs W):DY n₀ D sv xs S W S W [] []:=⟨h.st,λ_ h=>by simp at h,by simp,λ_ h=>by simp at h⟩
theorem DY.evo (h:DY n₀ D sv xs S0 W0 S W L T)(he:Ev noB S W S' W'):DY n₀ D sv xs S0 W0 S' W' L T :=
 ⟨h.st.evo he,λp hp=>by obtain⟨h1,h2,h3,h4⟩:=h.bx p hp;exact⟨he.blk h1 h2 (λh=>h),he.not h1.lt h2,h3,h4⟩,h.ne,λq hq=>he.sl (h.sl q hq)⟩
theorem DY.up (h:DY n₀ D sv xs S0 W0 S W L T)(hb:Below W.heap.size W W'):DY n₀ D sv xs S0 W0 S W' L T:=h.evo (Ev.of_below h.st.td.tw hb)
theorem DY.fresh (h:DY n₀ D sv xs S0 W0 S W L T)(hb:Below W.heap.size W W')(hB:W.heap.size<=B)(hk:Blk W' B c t):DY n₀ D sv xs S0 W0 S W' ((B,c,t)::L) T:=by
 have h1:=h.up hb;refine⟨h1.st,λp hp=> ?_,?_,h1.sl⟩
 ·rcases List.mem_cons.1 hp with rfl|hp
  ·exact⟨hk,λhs=>by have:=h.st.td.tw.lt hs;omega,λe=>by have:=h.st.td.lt;simp at e;omega,Nat.le_trans h.st.ev.size hB⟩
  ·exact h1.bx p hp
 ·exact ygj
theorem DY.box (h:DY n₀ D sv xs S0 W0 S W L T)(c:Array Value)(t:TypeId):DY n₀ D sv xs S0 W0 S (W.alloc (.cells c t)) ((W.heap.size,c,t)::L) T:=h.fresh ((zR _ _).alloc (yR _) _) (yR _) (Blk.new _ _ _)
theorem DY.cellT (h:DY n₀ D sv xs S0 W0 S W L T){c:Array Value}{e:TypeId}(hc:TB S W e c):DY n₀ D sv xs S0 W0 (λb=>S b\/b=W.heap.size) (W.alloc (.cells c e)) L T:=h.evo (Ev.alloc h.st.td.tw hc)
theorem DY.add (h:DY n₀ D sv xs S0 W0 S W L T){e:TypeId}{v:Value}{n:Nat}(hv:SL S W e v n):DY n₀ D sv xs S0 W0 S W L ((e,v,n)::T):=⟨h.st,h.bx,h.ne,λq hq=>by
 rcases List.mem_cons.1 hq with rfl|hq
 ·exact hv
 ·exact h.sl q hq⟩
theorem DY.tail (h:DY n₀ D sv xs S0 W0 S W (p::L) T):DY n₀ D sv xs S0 W0 S W L T:=⟨h.st,λq hq=>h.bx q (List.mem_cons_of_mem _ hq),(List.nodup_cons.1 h.ne).2,h.sl⟩
theorem DY.tailT {q:TypeId×Value×Nat}(h:DY n₀ D sv xs S0 W0 S W L (q::T)):DY n₀ D sv xs S0 W0 S W L T:=⟨h.st,h.bx,h.ne,λq hq=>h.sl q (List.mem_cons_of_mem _ hq)⟩
theorem DY.swap {q:Nat×Array Value×TypeId}(h:DY n₀ D sv xs S0 W0 S W (p::q::L) T):DY n₀ D sv xs S0 W0 S W (q::p::L) T:=⟨h.st,λr hr=>h.bx r (by
 simp only[List.mem_cons]at hr ⊢;rcases hr with h|h|h
 ·exact .inr (.inl h)
 ·exact .inl h
 ·exact .inr (.inr h)),by
  have:=h.ne;simp only[List.map_cons,List.nodup_cons,List.mem_cons,not_or]at this ⊢;exact⟨⟨λe=>this.1.1 e.symm,this.2.1⟩,this.1.2,this.2.2⟩,h.sl⟩
theorem DY.call (h:DY n₀ D sv xs S0 W0 S W L T)(m:Int)(hm1:1<=m)(hm2:m<=4611686018427387904) :
 Calls prog 73 #[.pointer (some ⟨D,0,none⟩),.int .i64 m] W λe W'=>∃v,e= .returned (.int .i64 v)/\0<=v/\v<m/\DY n₀ D sv xs S0 W0 S W' L T:=by
 refine(h.st.call m hm1 hm2).mono ?_;rintro e W'⟨v,rfl,h0,h1,h2,hg,h3⟩;exact⟨v,rfl,h0,h1,⟨h2,λp hp=>by
  obtain⟨k1,k2,k3,k4⟩:=h.bx p hp;exact⟨k1.kept hg (λe=>k3 (Option.some.inj e).symm),k2,k3,k4⟩,h.ne,λq hq=>h3.sl (h.sl q hq)⟩⟩
theorem DY.write (h:DY n₀ D sv xs S0 W0 S W ((B,c,t)::L) T)(hg:W.grownBy W' (some B))(hk:Blk W' B c2 t2):DY n₀ D sv xs S0 W0 S W' ((B,c2,t2)::L) T:=by
 obtain⟨hB1,hB2,hB3,hB4⟩:=h.bx _ (List.mem_cons_self ..);have hsame:∀b,b≠B->b<W.heap.size->W'.heap[b]? =W.heap[b]? :=λb hb hl=>hg.block b hl (λe=>hb (Option.some.inj e))
 have hev:=h.st.ev.own hg (λr e=>by cases e;exact⟨hB2,hB4⟩);have hlt:=h.st.td.lt;have hlo:=h.st.lo;obtain⟨j,hj,hb⟩:=h.st.td.box;have hbel:Below n₀ W W':=Below.of_grown hg (by have:=h.st.td.le;omega) (λq e=>by cases e;simp only at hB4;omega);have hsh:Shp S W W':=λb c e hb hc=>⟨c,(hsame b (λe=>hB2 (by subst e;exact hb)) hc.lt).trans hc,rfl⟩
 refine⟨⟨⟨hev.ok,⟨j,hj,hb.kept hg (λe=>hB3 (Option.some.inj e))⟩,h.st.td.ints.below hbel,h.st.td.le,h.st.td.len,h.st.td.low,h.st.td.not⟩,hev,hlo⟩,λp hp=> ?_,?_,λq hq=>(h.sl q hq).mono (λ_ h=>h) hsh⟩
 ·rcases List.mem_cons.1 hp with rfl|hp'
  ·exact⟨hk,hB2,hB3,hB4⟩
  ·obtain⟨k1,k2,k3,k4⟩:=h.bx p (List.mem_cons_of_mem _ hp')
   refine⟨k1.kept hg (λe=> ?_),k2,k3,k4⟩;exact yhv
 ·exact h.ne
theorem DY.set (h:DY n₀ D sv xs S0 W0 S W ((B,c,t)::L) T)(i:Nat)(v:Value){c':Array Value}(hc:c.setIfInBounds i v=c'):DY n₀ D sv xs S0 W0 S (W.setCell ⟨B,i,none⟩ v) ((B,c',t)::L) T :=
 h.write (a0x W B i v) (hc▸(h.bx _ (List.mem_cons_self ..)).1.set i v)
theorem DY.b0 (h:DY n₀ D sv xs S0 W0 S W ((B,c,t)::L) T):Blk W B c t:=(h.bx _ (List.mem_cons_self ..)).1
theorem DY.b1 (h:DY n₀ D sv xs S0 W0 S W (p::(B,c,t)::L) T):Blk W B c t:=h.tail.b0
theorem DY.b2 {p2:Nat×Array Value×TypeId}(h:DY n₀ D sv xs S0 W0 S W (p::p2::(B,c,t)::L) T):Blk W B c t:=h.tail.tail.b0
theorem DY.b3 {p2 p3:Nat×Array Value×TypeId}(h:DY n₀ D sv xs S0 W0 S W (p::p2::p3::(B,c,t)::L) T):Blk W B c t:=h.tail.tail.tail.b0
theorem DY.s0 {e:TypeId}{v:Value}{n:Nat}(h:DY n₀ D sv xs S0 W0 S W L ((e,v,n)::T)):SL S W e v n:=h.sl _ (List.mem_cons_self ..)
theorem DY.s1 {q:TypeId×Value×Nat}{e:TypeId}{v:Value}{n:Nat}(h:DY n₀ D sv xs S0 W0 S W L (q::(e,v,n)::T)):SL S W e v n:=h.tailT.s0
theorem DY.td (h:DY n₀ D sv xs S0 W0 S W L T):TD S n₀ D sv xs W:=h.st.td
theorem DY.tw (h:DY n₀ D sv xs S0 W0 S W L T):TW S W:=h.st.td.tw
theorem DY.then_ (h:DY n₀ D sv xs S0 W0 S W L T)(h1:TD S' n₀ D sv xs W')(h2:Ev (b0f D) S W S' W'):DY n₀ D sv xs S0 W0 S' W' L T :=
 ⟨h.st.then_ h1 h2,λp hp=>by
  obtain⟨k1,k2,k3,k4⟩:=h.bx p hp;exact⟨h2.blk k1 k2 k3,h2.not k1.lt k2,k3,k4⟩,h.ne,λq hq=>h2.sl (h.sl q hq)⟩
end
def Strs (c:Array Value):Prop:=∀u∈c.toList,∃s,u= .string s/\s.size<=30
theorem a9p (l:List ByteArray)(h:l.all (λs=>decide (s.size<=30))=true):Strs (l.map Value.string).toArray:=λu hu=>by
 simp only[List.mem_map]at hu;obtain⟨s,hs,rfl⟩:=hu;exact⟨s,rfl,of_decide_eq_true (List.all_eq_true.1 h s hs)⟩
theorem Strs.at_ {W:World}{B:Nat}{c:Array Value}{t:TypeId}(hs:Strs c)(h:Blk W B c t){q:Nat}(hq:q<c.size):∃s,W.cell? ⟨B,q,none⟩=some (.string s)/\s.size<=30:=by
 obtain⟨s,hx,h2⟩:=hs (c[q]'hq) vM;exact⟨s,by rw[h.cell,Array.getElem?_eq_getElem hq,hx],h2⟩
theorem a6n {W:World}{B:Nat}{a b c d e f g i:Value}{t:TypeId}(h:Blk W B #[a,b,c,d,e,f,g,i] t):W.cell? ⟨B,0,none⟩=some a/\W.cell? ⟨B,1,none⟩=some b/\W.cell? ⟨B,2,none⟩=some c/\W.cell? ⟨B,3,none⟩=some d/\W.cell? ⟨B,4,none⟩=some e/\W.cell? ⟨B,5,none⟩=some f/\W.cell? ⟨B,6,none⟩=some g/\W.cell? ⟨B,7,none⟩=some i :=
 ⟨h.cell 0,h.cell 1,h.cell 2,h.cell 3,h.cell 4,h.cell 5,h.cell 6,h.cell 7⟩
theorem b9e {W:World}{B:Nat}{a b c d e f g:Value}{t:TypeId}(h:Blk W B #[a,b,c,d,e,f,g] t):W.cell? ⟨B,0,none⟩=some a/\W.cell? ⟨B,1,none⟩=some b/\W.cell? ⟨B,2,none⟩=some c/\W.cell? ⟨B,3,none⟩=some d/\W.cell? ⟨B,4,none⟩=some e/\W.cell? ⟨B,5,none⟩=some f/\W.cell? ⟨B,6,none⟩=some g :=
 ⟨h.cell 0,h.cell 1,h.cell 2,h.cell 3,h.cell 4,h.cell 5,h.cell 6⟩
theorem a1v {W:World}{B:Nat}{a b c d:Value}{t:TypeId}(h:Blk W B #[a,b,c,d] t):W.cell? ⟨B,0,none⟩=some a/\W.cell? ⟨B,1,none⟩=some b/\W.cell? ⟨B,2,none⟩=some c/\W.cell? ⟨B,3,none⟩=some d :=
 ⟨h.cell 0,h.cell 1,h.cell 2,h.cell 3⟩
abbrev c4u (id:Int)(lv:Value)(lev:Int)(cs ns:ByteArray)(st:Bool)(wt ds:Int):Array Value:= #[.int .i64 id,lv,.int .i64 lev,.string cs,.string ns,.bool st,.int .i64 wt,.int .i64 ds]
abbrev d8e (id x y:Int)(cs ns:ByteArray)(wt ds:Int):Array Value:= #[.int .i64 id,.int .i64 x,.int .i64 y,.string cs,.string ns,.int .i64 wt,.int .i64 ds]
theorem c9h {S:BS}{W:World}{id lev wt ds:Int}{cs ns:ByteArray}{st:Bool}{v:Value}{n:Nat}(h0:fits id)(h2:fits lev)(h3:cs.size<=30)(h4:ns.size<=30)(h6:fits wt)(h7:fits ds)(hv:SL S W 26 v n)(hn:n<=100):TB S W 149 (c4u id v lev cs ns st wt ds):=c2a rfl rfl λi u ct k1 k2=>by
 match i,k1,k2 with
 |0,k1,k2=>cases k1;cases k2;exact CT.ok_int h0
 |1,k1,k2=>cases k1;cases k2;exact CT.ok_sl hv hn
 |2,k1,k2=>cases k1;cases k2;exact CT.ok_int h2
 |3,k1,k2=>cases k1;cases k2;exact CT.ok_str h3
 |4,k1,k2=>cases k1;cases k2;exact CT.ok_str h4
 |5,k1,k2=>cases k1;cases k2;exact CT.ok_bool _
 |6,k1,k2=>cases k1;cases k2;exact CT.ok_int h6
 |7,k1,k2=>cases k1;cases k2;exact CT.ok_int h7
 |i+8,k1,_=>simp at k1
theorem DY.pt0 {n₀ D:Nat}{sv:Value}{xs:List Int}{S0 S:BS}{W0 W:World}{L:a9o}{T:SlL}{B:Nat}{X Y X':Int}{t:TypeId}(h:DY n₀ D sv xs S0 W0 S W ((B,#[.int .i64 X,.int .i64 Y],t)::L) T)(f:fits X'):∃X7,fits X7/\DY n₀ D sv xs S0 W0 S (W.setCell ⟨B,0,none⟩ (.int .i64 X')) ((B,#[.int .i64 X7,.int .i64 Y],t)::L) T :=
 ⟨X',f,h.set 0 _ vM⟩
theorem DY.pt1 {n₀ D:Nat}{sv:Value}{xs:List Int}{S0 S:BS}{W0 W:World}{L:a9o}{T:SlL}{B:Nat}{X Y Y':Int}{t:TypeId}(h:DY n₀ D sv xs S0 W0 S W ((B,#[.int .i64 X,.int .i64 Y],t)::L) T)(f:fits Y'):∃Y7,fits Y7/\DY n₀ D sv xs S0 W0 S (W.setCell ⟨B,1,none⟩ (.int .i64 Y')) ((B,#[.int .i64 X,.int .i64 Y7],t)::L) T :=
 ⟨Y',f,h.set 1 _ vM⟩
theorem DY.put {n₀ D:Nat}{sv:Value}{xs:List Int}{S0 S:BS}{W0 W W':World}{L:a9o}{T:SlL}{B i:Nat}{c c':Array Value}{v:Value}{t:TypeId}(h:DY n₀ D sv xs S0 W0 S W ((B,c,t)::L) T)(hW:W'=W.setCell ⟨B,i,none⟩ v)(hc:c.setIfInBounds i v=c'):DY n₀ D sv xs S0 W0 S W' ((B,c',t)::L) T:=hW▸h.set i v hc
theorem DY.wd {n₀ D:Nat}{sv:Value}{xs:List Int}{S0 S:BS}{W0 W W':World}{L:a9o}{T:SlL}{B:Nat}{id lev wt d:Int}{lv:Value}{cs ns:ByteArray}{st:Bool}{t:TypeId}(h:DY n₀ D sv xs S0 W0 S W ((B,c4u id lv lev cs ns st wt 0,t)::L) T)(hW:W'=W.setCell ⟨B,7,none⟩ (.int .i64 d))(f:fits d):∃d7,fits d7/\DY n₀ D sv xs S0 W0 S W' ((B,c4u id lv lev cs ns st wt d7,t)::L) T :=
 ⟨d,f,h.put hW rfl⟩
def FWy (wr:World)(B6 B7 k M:Nat)(ax ay bx by_:Int)(i:Nat)(v:Value)(w:World):Prop :=
 match i with
 |0=>v= .pointer (some ⟨B6,0,none⟩)
 |1=>v= .int .i64 ax
 |2=>v= .pointer (some ⟨B7,0,none⟩)
 |3=>v= .int .i64 bx
 |4=>v= .pointer (some ⟨B6,0,none⟩)
 |5=>v= .int .i64 ax
 |6=>∃x,v= .int .i64 x/\fits x
 |7=>v= .int .i64 (k:Nat)
 |8=>∃x,v= .int .i64 x/\fits x
 |9=>v= .int .i64 (M:Nat)
 |10=>v= .int .i64 ((M:Nat)+1)
 |11=>∃x,v= .int .i64 x/\fits x
 |12=>∃x,v= .int .i64 x/\fits x
 |13=>v= .pointer (some ⟨B6,1,none⟩)
 |14=>v= .int .i64 ay
 |15=>v= .pointer (some ⟨B7,1,none⟩)
 |16=>v= .int .i64 by_
 |17=>v= .pointer (some ⟨B6,1,none⟩)
 |18=>v= .int .i64 ay
 |19=>∃x,v= .int .i64 x/\fits x
 |20=>v= .int .i64 (k:Nat)
 |21=>∃x,v= .int .i64 x/\fits x
 |22=>v= .int .i64 (M:Nat)
 |23=>v= .int .i64 ((M:Nat)+1)
 |24=>∃x,v= .int .i64 x/\fits x
 |25=>∃x,v= .int .i64 x/\fits x
 |26=>∃X Y,v= .agg #[.int .i64 X,.int .i64 Y]/\fits X/\fits Y
 |27=>∃B,v= .pointer (some ⟨B,0,none⟩)/\wr.heap.size<=B/\Blk w B #[.int .i64 0,.int .i64 0] 26
 |_=>False
theorem FWy.kept {wr:World}{B6 B7 k M:Nat}{ax ay bx by_:Int}{i:Nat}{v:Value}{w w':World}(h:FWy wr B6 B7 k M ax ay bx by_ i v w)(hg:Below w.heap.size w w'):FWy wr B6 B7 k M ax ay bx by_ i v w':=by
 unfold FWy at *;exact yil
def e1g (n₀ D:Nat)(sv:Value)(xs:List Int)(S:BS)(w:World)(m M BW B6 B7:Nat)(lev ax ay bx by_:Int)(ov kk:Value)(wr:World):Prop :=
 ∃(k:Nat) (S':BS) (lv:Value) (n:Nat),1<=k/\k<=M+1/\kk= .int .i64 (k:Nat)/\n<=k/\DY n₀ D sv xs S w S' wr [(BW,c4u (41+m) lv lev ⟨#[]⟩ ⟨#[]⟩ false 0 0,149),(B6,#[.int .i64 ax,.int .i64 ay],26),(B7,#[.int .i64 bx,.int .i64 by_],26)] [(26,lv,n),(149,ov,m)]
theorem c2c (n₀ D:Nat)(sv:Value)(xs:List Int)(S:BS)(w:World)(h:TD S n₀ D sv xs w)(ov:Value)(m:Nat)(hso:SL S w 149 ov m)(hm:m<=100)(ax ay bx by_ lev:Int)(fa:fits ax)(fb:fits ay)(fc:fits bx)(fd:fits by_)(fl:fits lev) :
 Calls prog 132 #[ov,.agg #[.int .i64 ax,.int .i64 ay],.agg #[.int .i64 bx,.int .i64 by_],.int .i64 lev,.pointer (some ⟨D,0,none⟩)] w λe w'=>∃S' v,e= .returned v/\SL S' w' 149 v (m+1)/\TD S' n₀ D sv xs w'/\Ev (b0f D) S w S' w':=by
 obtain⟨oa,oc,rfl,hoc⟩:=hso.form;go_enter func132,ntmps132;go_upto_region 2 with fail;refine a0n (λW1 hW1=> ?_);obtain⟨B6,hB6⟩:=zE w.heap.size;obtain⟨B7,hB7⟩:=zE (w.heap.size+1);obtain⟨BL,hBL⟩:=zE (w.heap.size+1+1);obtain⟨BW,hBW⟩:=zE (w.heap.size+1+1+1);obtain⟨S1,hd⟩:∃S1,DY n₀ D sv xs S w S1 W1 [(BW,c4u (41+m) (.slice (some ⟨BL,0,none⟩) 1 1) lev ⟨#[]⟩ ⟨#[]⟩ false 0 0,149),(B6,#[.int .i64 ax,.int .i64 ay],26),(B7,#[.int .i64 bx,.int .i64 by_],26)] [(26,.slice (some ⟨BL,0,none⟩) 1 1,1),(149,.slice oa m oc,m)]:=by
  have h1:=((((h.dw.add hso).box #[.int .i64 ax,.int .i64 ay] 26).box #[.int .i64 bx,.int .i64 by_] 26).swap.cellT (a5m fa fb));have h2:=(h1.add (SL.blk (.inr rfl) (Blk.new _ _ _) (by show 1*2<=2;omega))).box (c4u (41+m) (.slice (some ⟨BL,0,none⟩) 1 1) lev ⟨#[]⟩ ⟨#[]⟩ false 0 0) 149;simp only[World.size_alloc]at h2;rw[hBW,hBL,hB7,hB6]at h2;rw[hW1,hBL];exact⟨_,h2⟩
 rw[hBW,hBL,hB7,hB6];clear hW1 hBW hBL hB7 hB6;obtain⟨lv,hlv⟩:=zE (Value.slice (some ⟨BL,0,none⟩) 1 1);rw[hlv]at hd;clear hlv;go_wp2_with (first
  |(go_at_call 73;(with_reducible refine(hd.call 3 oM oM).mono ?_);rintro e W2⟨many,rfl,m0,m1,hd2⟩))
 obtain⟨M,rfl⟩:∃M:Nat,many=M:=⟨many.toNat,oM⟩;go_loopw [13] (λkk wr=>e1g n₀ D sv xs S w m M BW B6 B7 lev ax ay bx by_ (.slice oa m oc) kk wr) (λkk _=>M+1-(intOf kk).toNat)
 case atStart=>exact⟨1,S1,lv,1,oM,oM,rfl,oM,hd2⟩
 case round =>
  clear hd hd2 lv;obtain⟨ov,hov⟩:=zE (Value.slice oa m oc);rw[hov]at hrel;rw[hov];obtain⟨k,S',lv,n,hk1,hkM,rfl,hn,hd⟩:=hrel;by_cases hlt:k<=M
  ·have hltI:(k:Int)<=(M:Int):=oM
   have hM0:¬(M:Int)+1=0:=oM;have hMw:IntKind.i64.wrap ((M:Int)+1)=M+1:=a0k oM oM;have k6:=hd.b1;have k7:=hd.b2;obtain⟨la,lc,rfl,-⟩:=hd.s0.form;obtain⟨lv,hlv⟩:=zE (Value.slice la n lc);rw[hlv]at hd;go_upto_region 6 with fail;refine Go.wp_region_rel 28 zM zM (λ_ W=>WG7 wr B6 B7 ax ay bx by_ W) (λw w'=>Below w.heap.size w w') (FWy wr B6 B7 k M ax ay bx by_) (λ_ _ _ _ h g=>h.kept g) ⟨(zR _ _).drew,k6.drew,k7.drew⟩ ?_ ?_
   ·clear hd k6 k7 h hso
    intro i o hi ho c bb W hc hM hA hD K hK;match i,hi,ho with
    |0,_,ho =>
     exact yfr
    |1,_,ho =>
     cases ho;have f30:=a0a (v:= .pointer (some ⟨B6,0,none⟩)) (a0c hD 0 30 zM rfl rfl);exact yhq
    |2,_,ho =>
     cases ho;have f7:=a0a (v:= .pointer (some ⟨B7,0,none⟩)) (hA.at_ (k:=7) zM);go_simp;exact hK (.pointer (some ⟨B7,0,none⟩)) W rfl (zR _ _) hM
    |3,_,ho =>
     cases ho;have f32:=a0a (v:= .pointer (some ⟨B7,0,none⟩)) (a0c hD 2 32 zM rfl rfl);have z0:W.cell? ⟨B7,0,none⟩=some (.int .i64 bx):=hM.u.cell 0;go_simp;exact hK (.int .i64 bx) W rfl (zR _ _) hM
    |4,_,ho =>
     exact yfr
    |5,_,ho =>
     cases ho;have f34:=a0a (v:= .pointer (some ⟨B6,0,none⟩)) (a0c hD 4 34 zM rfl rfl);exact yhq
    |6,_,ho =>
     cases ho;have f33:=a0a (v:= .int .i64 bx) (a0c hD 3 33 zM rfl rfl);have f35:=a0a (v:= .int .i64 ax) (a0c hD 5 35 zM rfl rfl);exact ybx
    |7,_,ho =>
     exact yjc
    |8,_,ho =>
     cases ho;have f36:=a0c hD 6 36 zM rfl rfl;obtain⟨x36,e36,g36⟩:=f36;have f36:=a0a e36;have f37:=a0a (v:= .int .i64 (k:Nat)) (a0c hD 7 37 zM rfl rfl);exact ybx
    |9,_,ho =>
     exact yjd
    |10,_,ho =>
     cases ho;have f39:=a0a (v:= .int .i64 (M:Nat)) (a0c hD 9 39 zM rfl rfl);exact yfq
    |11,_,ho =>
     cases ho;have f38:=a0c hD 8 38 zM rfl rfl;obtain⟨x38,e38,g38⟩:=f38;have f38:=a0a e38;have f40:=a0a (v:= .int .i64 ((M:Nat)+1)) (a0c hD 10 40 zM rfl rfl);exact ybx
    |12,_,ho =>
     cases ho;have f31:=a0a (v:= .int .i64 ax) (a0c hD 1 31 zM rfl rfl);have f41:=a0c hD 11 41 zM rfl rfl;obtain⟨x41,e41,g41⟩:=f41;have f41:=a0a e41;exact ybx
    |13,_,ho =>
     exact yfs
    |14,_,ho =>
     cases ho;have f43:=a0a (v:= .pointer (some ⟨B6,1,none⟩)) (a0c hD 13 43 zM rfl rfl);exact yhr
    |15,_,ho =>
     cases ho;have f7:=a0a (v:= .pointer (some ⟨B7,0,none⟩)) (hA.at_ (k:=7) zM);go_simp;exact hK (.pointer (some ⟨B7,1,none⟩)) W rfl (zR _ _) hM
    |16,_,ho =>
     cases ho;have f45:=a0a (v:= .pointer (some ⟨B7,1,none⟩)) (a0c hD 15 45 zM rfl rfl);have z0:W.cell? ⟨B7,1,none⟩=some (.int .i64 by_):=hM.u.cell 1;go_simp;exact hK (.int .i64 by_) W rfl (zR _ _) hM
    |17,_,ho =>
     exact yfs
    |18,_,ho =>
     cases ho;have f47:=a0a (v:= .pointer (some ⟨B6,1,none⟩)) (a0c hD 17 47 zM rfl rfl);exact yhr
    |19,_,ho =>
     cases ho;have f46:=a0a (v:= .int .i64 by_) (a0c hD 16 46 zM rfl rfl);have f48:=a0a (v:= .int .i64 ay) (a0c hD 18 48 zM rfl rfl);exact ybx
    |20,_,ho =>
     exact yjc
    |21,_,ho =>
     cases ho;have f49:=a0c hD 19 49 zM rfl rfl;obtain⟨x49,e49,g49⟩:=f49;have f49:=a0a e49;have f50:=a0a (v:= .int .i64 (k:Nat)) (a0c hD 20 50 zM rfl rfl);exact ybx
    |22,_,ho =>
     exact yjd
    |23,_,ho =>
     cases ho;have f52:=a0a (v:= .int .i64 (M:Nat)) (a0c hD 22 52 zM rfl rfl);exact yfq
    |24,_,ho =>
     cases ho;have f51:=a0c hD 21 51 zM rfl rfl;obtain⟨x51,e51,g51⟩:=f51;have f51:=a0a e51;have f53:=a0a (v:= .int .i64 ((M:Nat)+1)) (a0c hD 23 53 zM rfl rfl);exact ybx
    |25,_,ho =>
     cases ho;have f44:=a0a (v:= .int .i64 ay) (a0c hD 14 44 zM rfl rfl);have f54:=a0c hD 24 54 zM rfl rfl;obtain⟨x54,e54,g54⟩:=f54;have f54:=a0a e54;exact ybx
    |26,_,ho =>
     cases ho;have f42:=a0c hD 12 42 zM rfl rfl;obtain⟨x42,e42,g42⟩:=f42;have f42:=a0a e42;have f55:=a0c hD 25 55 zM rfl rfl;obtain⟨x55,e55,g55⟩:=f55;have f55:=a0a e55;go_simp;exact hK _ W ⟨_,_,rfl,g42,g55⟩ (zR _ _) hM
    |27,_,ho =>
     exact yfm
    |i+28,hi,_=>exact absurd hi oM
   ·intro bb W hM hA hall
    obtain⟨X,Y,hP26,fX,fY⟩:=(show ∃X Y,bb.eval (.tmp 56)= .agg #[.int .i64 X,.int .i64 Y]/\fits X/\fits Y from hall 26 oM _ _ rfl rfl);obtain⟨B14,hP27,hBl,kB0⟩:=(show ∃B,bb.eval (.tmp 14)= .pointer (some ⟨B,0,none⟩)/\wr.heap.size<=B/\Blk W B #[.int .i64 0,.int .i64 0] 26 from hall 27 oM _ _ rfl rfl);have hfr:=hA.frame (rT 14 (rF 1 (rT 15 (rF 27 (rT 66 ([])))))) _ rfl zM;clear hall hA;obtain⟨f,hf⟩:∃f:Nat->Value,(λk=>bb.tmps.getD k undef)=f:=⟨_,rfl⟩;have g56:f 56= .agg #[.int .i64 X,.int .i64 Y]:=by rw[<-hf,<-hP26];rfl
    have g14:f 14= .pointer (some ⟨B14,0,none⟩):=by rw[<-hf,<-hP27];rfl
    rw[hf]at hfr;clear hf hP26 hP27;subst hfr;simp only[rT,rF,a1z,g56,g14,Nat.reduceAdd];clear g56 g14;simp only[zU];refine a2q qM _ _ _ qM B14 #[.int .i64 X,.int .i64 Y] qM qM _ _ kB0 qM qM (by simp[Value.oneCell']) ?_;intro W5 kP hg5;have hd5:=hd.fresh (hM.b.trans (Below.of_grown hg5 hM.b.size (λr e=>by cases e;exact hBl))) hBl kP;clear hM kB0 hg5 kP hBl hd k6 k7;go_upto_region 8 with(first
     |(go_at_call 73;(with_reducible refine(hd5.call 17 oM oM).mono ?_);rintro e W6⟨dr,rfl,r0,r1,hd6⟩))
    obtain⟨a0,a1,-,-⟩:=pt2 hd6.b2;obtain⟨b0,b1,-,-⟩:=pt2 hd6.b3;clear hd5;by_cases hy:ay=by_
    ·subst hy
     obtain⟨p0,p1,fr0,fr1⟩:=pt2 hd6.b0;go_upto_region 10 with fail;refine a0n (λW8 hW8=> ?_);obtain⟨Y7,fY7,hd8⟩:=hd6.pt1 (a1b (Y+(dr-8)));rw[<-hW8]at hd8;clear hW8 p0 p1 fr0 fr1 a0 a1 b0 b1 hd6;exact yal
    ·have hyb:(ay==by_)=false:=by simpa using hy
     go_upto_region 10 with fail;clear a0 a1 b0 b1;have hd8:=hd6;have fY7:=fY;clear hd6;obtain⟨Y7,hY7⟩:∃y,y=Y:=⟨_,rfl⟩;rw[<-hY7]at fY7 hd8;clear hY7;exact yal
  ·have hge:¬(k:Int)<=(M:Int):=oM
   have hn4:n<=4:=oM;clear hlt hk1 hkM hn;obtain⟨b0,b1,-,-⟩:=pt2 hd.b2;obtain⟨y0,y1,y2,y3,y4,y5,y6,y7⟩:=a6n hd.b0;go_upto_region 14 with(first
    |(at_builtin;refine a0y hd.tw qM _ _ 147 qM underlying147 a1s qM hd.s0 qM rfl (a5m fc fd) rfl oM ?_;intro v9 S9 w9 hsl9 he9;obtain⟨a9,c9,rfl,-⟩:=hsl9.form;have hd8:=hd.evo he9;obtain⟨z0,z1,z2,z3,z4,z5,z6,z7⟩:=a6n hd8.b0;have zf:=hd8.b0.frozen 1))
   refine a0n (λWA hWA=> ?_);have hdA:=(hd8.tailT.add hsl9).put hWA (c':=c4u (41+m) (.slice a9 (n+1) c9) lev ⟨#[]⟩ ⟨#[]⟩ false 0 0) rfl;clear hd hd8 hsl9 he9 hWA z0 z1 z2 z3 z4 z5 z6 z7 zf b0 b1 y0 y1 y2 y3 y4 y5 y6 y7;have st1:Strs #[.string ⟨#[112,97,116,104]⟩,.string ⟨#[114,111,97,100]⟩]:=a9p [⟨#[112,97,116,104]⟩,⟨#[114,111,97,100]⟩] jM;go_upto_region 15 with(first
    |(go_at_call 73;(with_reducible refine((hdA.box _ _).call 2 oM oM).mono ?_);rintro e Wb⟨q,rfl,q0,q1,hb⟩;obtain⟨q,rfl⟩:=Int.eq_ofNat_of_zero_le q0;obtain⟨s1,cs1,hs1⟩:=st1.at_ hb.b0 (q:=q) uM;have hdB:=hb.tail;obtain⟨z0,z1,z2,z3,z4,z5,z6,z7⟩:=a6n hdB.b0;have zf:=hdB.b0.frozen 3))
   refine a0n (λWC hWC=> ?_);have hdC:=hdB.put hWC (c':=c4u (41+m) (.slice a9 (n+1) c9) lev s1 ⟨#[]⟩ false 0 0) rfl;clear hdA hdB hb hWC z0 z1 z2 z3 z4 z5 z6 z7 zf cs1 st1;have st2:Strs #[.string ⟨#[]⟩,.string ⟨#[]⟩,.string ⟨#[82,105,110,103]⟩,.string ⟨#[79,108,100,32,87,97,121]⟩]:=a9p [⟨#[]⟩,⟨#[]⟩,⟨#[82,105,110,103]⟩,⟨#[79,108,100,32,87,97,121]⟩] jM;go_upto_region 16 with(first
    |(go_at_call 73;(with_reducible refine((hdC.box _ _).call 4 oM oM).mono ?_);rintro e Wd⟨q',rfl,q'0,q'1,hd⟩;obtain⟨q',rfl⟩:=Int.eq_ofNat_of_zero_le q'0;obtain⟨s2,cs2,hs2⟩:=st2.at_ hd.b0 (q:=q') uM;have hdD:=hd.tail;obtain⟨z0,z1,z2,z3,z4,z5,z6,z7⟩:=a6n hdD.b0;have zf:=hdD.b0.frozen 4))
   refine a0n (λWE hWE=> ?_);have hdE:=hdD.put hWE (c':=c4u (41+m) (.slice a9 (n+1) c9) lev s1 s2 false 0 0) rfl;clear hdC hdD hd hWE z0 z1 z2 z3 z4 z5 z6 z7 zf cs2 st2;go_upto_region 17 with(first
    |(go_at_call 73;(with_reducible refine(hdE.call 4 oM oM).mono ?_);rintro e Wf⟨s,rfl,g0,g1,hdF⟩;obtain⟨z0,z1,z2,z3,z4,z5,z6,z7⟩:=a6n hdF.b0;have zf:=hdF.b0.frozen 5))
   refine a0n (λWG hWG=> ?_);have hdG:=hdF.put hWG (c':=c4u (41+m) (.slice a9 (n+1) c9) lev s1 s2 (s==0) 0 0) rfl;clear hdE hdF hWG z0 z1 z2 z3 z4 z5 z6 z7 zf;obtain⟨sb,hsb⟩:=zE ((s==0));rw[hsb]at hdG;go_upto_region 18 with(first
    |(go_at_call 73;(with_reducible refine(hdG.call 60 oM oM).mono ?_);rintro e Wh⟨t,rfl,t0,t1,hdH⟩;obtain⟨z0,z1,z2,z3,z4,z5,z6,z7⟩:=a6n hdH.b0;have zf:=hdH.b0.frozen 6))
   refine a0n (λWI hWI=> ?_);have hdI:=hdH.put hWI (c':=c4u (41+m) (.slice a9 (n+1) c9) lev s1 s2 sb (1+t) 0) rfl;clear hdG hdH hWI z0 z1 z2 z3 z4 z5 z6 z7 zf;go_upto_region 19 with(first
    |(go_at_call 73;(with_reducible refine(hdI.call 3 oM oM).mono ?_);rintro e Wj⟨x,rfl,x0,x1,hdJ⟩)
    |(go_at_call 73;(with_reducible refine(hdJ.call 2 oM oM).mono ?_);rintro e Wk⟨y,rfl,y0,y1,hdK⟩;obtain⟨z0,z1,z2,z3,z4,z5,z6,z7⟩:=a6n hdK.b0;have zf:=hdK.b0.frozen 7))
   refine a0n (λWL hWL=> ?_);obtain⟨d7,f7,hdL⟩:=hdK.wd hWL zF;clear hdI hdJ hdK hWL z0 z1 z2 z3 z4 z5 z6 z7 zf;obtain⟨z0,z1,z2,z3,z4,z5,z6,z7⟩:=a6n hdL.b0;have f0:fits (41+(m:Int)):=⟨oM,oM⟩;have f6:fits (1+t):=⟨oM,oM⟩;go_wp2_with (first
    |(at_builtin;refine a0y hdL.tw qM _ _ 34 qM underlying34 a4e qM hdL.s1 qM rfl (c9h f0 fl hs1 hs2 f6 f7 hdL.s0 oM) rfl oM ?_;intro v9 S9 w9 hsl9 he9))
   go_ret;exact⟨S9,v9,rfl,hsl9,(hdL.evo he9).td,(hdL.evo he9).st.ev⟩
theorem DY.fin {n₀ D:Nat}{sv:Value}{xs:List Int}{S S':BS}{w W1 W':World}{L:a9o}{T:SlL}(h:DY n₀ D sv xs S W1 S' W' L T)(h0:Ev noB S w S W1)(hD:w.heap.size<=D):Ev noB S w S' W':=h0.wide h.st.ev (λb hb=>by cases hb;exact hD)
theorem TD.new {S:BS}{w:World}{n₀:Nat}{sv:Value}{xs:List Int}(hT:TW S w)(hlow:∀b,S b->n₀<=b)(hn:n₀<=w.heap.size)(hI:Intz n₀ w sv xs):TD S n₀ w.heap.size sv xs (w.alloc (.cells #[sv,.int .i64 0] 137)):=by
 have hb:Below w.heap.size w (w.alloc (.cells #[sv,.int .i64 0] 137)):=(zR _ _).alloc (yR _) _;exact⟨(Ev.of_below (X:=noB) hT hb).ok,⟨0,Nat.zero_le _,Blk.new _ _ _⟩,hI.ints.below (hb.mono hn),hn,hI.len,hlow,λh=>Nat.lt_irrefl _ (hT.lt h)⟩
def WsR (n₀ D:Nat)(sv:Value)(xs:List Int)(S:BS)(w:World)(a top g:Nat)(ov kk:Value)(wr:World):Prop :=
 ∃(i:Nat) (S':BS) (n:Nat),i<=top/\kk= .int .i64 (i:Nat)/\n<=a+g*i/\DY n₀ D sv xs S w S' wr [] [(149,ov,n)]
theorem c6b (n₀:Nat)(S:BS)(w:World)(hT:TW S w)(hlow:∀b,S b->n₀<=b)(hn0:n₀<=w.heap.size)(sv:Value)(xs:List Int)(hI:Intz n₀ w sv xs) :
 Calls prog 74 #[sv] w λe w'=>∃S' v,e= .returned v/\(∃n,SL S' w' 149 v n/\n<=20)/\Ev noB S w S' w':=by
 have htd:=TD.new hT hlow hn0 hI;obtain⟨sa,sc,rfl⟩:∃a c,sv= .slice a xs.length c:=by
  obtain⟨⟨a,c,e,-⟩,-⟩:=hI;exact⟨a,c,e⟩
 have hev1:Ev noB S w S (w.alloc (.cells #[.slice sa xs.length sc,.int .i64 0] 137)):=Ev.of_below hT zC;have hDw:w.heap.size<=w.heap.size:=yR _;have fz0:fits 0:=⟨jM,jM⟩;have fz1:fits 1:=⟨jM,jM⟩;have fzm:fits (-1):=⟨jM,jM⟩;go_enter func74,ntmps74;go_wp2_with fail;refine a0n (λW1 hW1=> ?_);rw[<-hW1]at htd hev1;obtain⟨D,hD⟩:=zE w.heap.size;have hDw':w.heap.size<=D:=oM;rw[hD]at htd;rw[hD];obtain⟨sv,hsv⟩:=zE (Value.slice sa xs.length sc);rw[hsv]at htd;rw[hsv];clear hW1 hD hDw hsv hI;have hDw:=hDw';clear hDw';have hd1:=htd.dw.add (SL.nil S W1 149);go_loopw [4,5] (λov kk wr=>WsR n₀ D sv xs S W1 0 2 3 ov kk wr) (λ_ kk _=>2-(intOf kk).toNat)
 case atStart=>exact⟨0,S,0,oM,rfl,oM,hd1⟩
 case round =>
  clear hd1;obtain⟨j,S1,n1,hj,rfl,hn1,hd⟩:=hrel;by_cases hlt:j<2
  ·have hltI:(j:Int)<2:=oM
   go_wp2_with fail;go_loopw [4,6] (λov kk wr=>WsR n₀ D sv xs S W1 (3*j) 3 1 ov kk wr) (λ_ kk _=>3-(intOf kk).toNat)
   case atStart=>exact⟨0,S1,n1,oM,rfl,oM,hd⟩
   case round =>
    clear hd;obtain⟨i,S2,n,hi,rfl,hn,hd⟩:=hrel;by_cases hlti:i<3
    ·have hltiI:(i:Int)<3:=oM
     go_upto_if 21 with(first
      |(go_at_call 73;(with_reducible refine(hd.call 2 oM oM).mono ?_);rintro e W2⟨q,rfl,q0,q1,hd2⟩))
     exact yat
    ·have hge:¬(i:Int)<3:=oM
     go_wp2_with fail;go_roundw
     case rel=>exact⟨j+1,S2,n,oM,by go_num,oM,hd⟩
     case measure=>simp[intOf];omega
  ·have hge:¬(j:Int)<2:=oM
   go_wp2_with fail;go_loopw [4,7] (λov kk wr=>WsR n₀ D sv xs S W1 6 4 1 ov kk wr) (λ_ kk _=>4-(intOf kk).toNat)
   case atStart=>exact⟨0,S1,n1,oM,rfl,oM,hd⟩
   case round =>
    clear hd;obtain⟨i,S2,n,hi,rfl,hn,hd⟩:=hrel;obtain⟨oa,oc,rfl,-⟩:=hd.s0.form;by_cases hlti:i<4
    ·have hltiI:(i:Int)<4:=oM
     by_cases hlen:n<5
     ·have hlenI:(n:Int)<5:=oM
      go_upto_if 43 with(first
       |(go_at_call 73;(with_reducible refine(hd.call 2 oM oM).mono ?_);rintro e W2⟨q,rfl,q0,q1,hd2⟩))
      exact yat
     ·have hlenI:¬(n:Int)<5:=oM
      exact yai
    ·have hge4:¬(i:Int)<4:=oM
     exact yai
end
section
open Go.RowKit Go.Shelf
attribute [local go_sem] Oper.semAt_some
structure OW (S0:BS)(W0:World)(S:BS)(W:World)(L:a9o)(T:SlL):Prop where
 ev:Ev noB S0 W0 S W
 bx:∀p∈L,Blk W p.1 p.2.1 p.2.2/\¬S p.1/\W0.heap.size<=p.1
 ne:(L.map (·.1)).Nodup
 sl:∀q∈T,SL S W q.1 q.2.1 q.2.2
section
variable {n₀ D:Nat}{sv:Value}{xs:List Int}{S0 S S':BS}{W0 W W':World}{L:a9o}{T:SlL}{B i:Nat}{c c2 c':Array Value}{t t2:TypeId}{p:Nat×Array Value×TypeId}
theorem OW.init (hT:TW S W):OW S W S W [] []:=⟨Ev.refl hT,λ_ h=>by simp at h,by simp,λ_ h=>by simp at h⟩
theorem OW.tw (h:OW S0 W0 S W L T):TW S W:=h.ev.ok
theorem OW.evo (h:OW S0 W0 S W L T)(he:Ev noB S W S' W'):OW S0 W0 S' W' L T :=
 ⟨h.ev.trans he,λp hp=>by obtain⟨h1,h2,h3⟩:=h.bx p hp;exact⟨he.blk h1 h2 (λh=>h),he.not h1.lt h2,h3⟩,h.ne,λq hq=>he.sl (h.sl q hq)⟩
theorem OW.up (h:OW S0 W0 S W L T)(hb:Below W.heap.size W W'):OW S0 W0 S W' L T:=h.evo (Ev.of_below h.tw hb)
theorem OW.fresh (h:OW S0 W0 S W L T)(hb:Below W.heap.size W W')(hB:W.heap.size<=B)(hk:Blk W' B c t):OW S0 W0 S W' ((B,c,t)::L) T:=by
 have h1:=h.up hb;refine⟨h1.ev,λp hp=> ?_,?_,h1.sl⟩
 ·rcases List.mem_cons.1 hp with rfl|hp
  ·exact⟨hk,λhs=>by have:=h.tw.lt hs;omega,Nat.le_trans h.ev.size hB⟩
  ·exact h1.bx p hp
 ·exact ygj
theorem OW.box (h:OW S0 W0 S W L T)(c:Array Value)(t:TypeId):OW S0 W0 S (W.alloc (.cells c t)) ((W.heap.size,c,t)::L) T:=h.fresh ((zR _ _).alloc (yR _) _) (yR _) (Blk.new _ _ _)
theorem OW.add (h:OW S0 W0 S W L T){e:TypeId}{v:Value}{n:Nat}(hv:SL S W e v n):OW S0 W0 S W L ((e,v,n)::T):=⟨h.ev,h.bx,h.ne,λq hq=>by
 rcases List.mem_cons.1 hq with rfl|hq
 ·exact hv
 ·exact h.sl q hq⟩
theorem OW.tail (h:OW S0 W0 S W (p::L) T):OW S0 W0 S W L T:=⟨h.ev,λq hq=>h.bx q (List.mem_cons_of_mem _ hq),(List.nodup_cons.1 h.ne).2,h.sl⟩
theorem OW.tailT {q:TypeId×Value×Nat}(h:OW S0 W0 S W L (q::T)):OW S0 W0 S W L T:=⟨h.ev,h.bx,h.ne,λq hq=>h.sl q (List.mem_cons_of_mem _ hq)⟩
theorem OW.swap {q:Nat×Array Value×TypeId}(h:OW S0 W0 S W (p::q::L) T):OW S0 W0 S W (q::p::L) T:=⟨h.ev,λr hr=>h.bx r (by
 simp only[List.mem_cons]at hr ⊢;rcases hr with h|h|h
 ·exact .inr (.inl h)
 ·exact .inl h
 ·exact .inr (.inr h)),by
  have:=h.ne;simp only[List.map_cons,List.nodup_cons,List.mem_cons,not_or]at this ⊢;exact⟨⟨λe=>this.1.1 e.symm,this.2.1⟩,this.1.2,this.2.2⟩,h.sl⟩
theorem OW.write (h:OW S0 W0 S W ((B,c,t)::L) T)(hg:W.grownBy W' (some B))(hk:Blk W' B c2 t2):OW S0 W0 S W' ((B,c2,t2)::L) T:=by
 obtain⟨hB1,hB2,hB4⟩:=h.bx _ (List.mem_cons_self ..);have hsame:∀b,b≠B->b<W.heap.size->W'.heap[b]? =W.heap[b]? :=λb hb hl=>hg.block b hl (λe=>hb (Option.some.inj e))
 have hev:=h.ev.own hg (λr e=>by cases e;exact⟨hB2,hB4⟩);have hsh:Shp S W W':=λb c e hb hc=>⟨c,(hsame b (λe=>hB2 (by subst e;exact hb)) hc.lt).trans hc,rfl⟩
 refine⟨hev,λp hp=> ?_,h.ne,λq hq=>(h.sl q hq).mono (λ_ h=>h) hsh⟩;rcases List.mem_cons.1 hp with rfl|hp'
 ·exact⟨hk,hB2,hB4⟩
 ·obtain⟨k1,k2,k4⟩:=h.bx p (List.mem_cons_of_mem _ hp')
  refine⟨k1.kept hg (λe=> ?_),k2,k4⟩;exact yhv
theorem OW.set (h:OW S0 W0 S W ((B,c,t)::L) T)(i:Nat)(v:Value)(hc:c.setIfInBounds i v=c'):OW S0 W0 S (W.setCell ⟨B,i,none⟩ v) ((B,c',t)::L) T :=
 h.write (a0x W B i v) (hc▸(h.bx _ (List.mem_cons_self ..)).1.set i v)
theorem OW.put {v:Value}(h:OW S0 W0 S W ((B,c,t)::L) T)(hW:W'=W.setCell ⟨B,i,none⟩ v)(hc:c.setIfInBounds i v=c'):OW S0 W0 S W' ((B,c',t)::L) T:=hW▸h.set i v hc
theorem OW.b0 (h:OW S0 W0 S W ((B,c,t)::L) T):Blk W B c t:=(h.bx _ (List.mem_cons_self ..)).1
theorem OW.b1 (h:OW S0 W0 S W (p::(B,c,t)::L) T):Blk W B c t:=h.tail.b0
theorem OW.s0 {e:TypeId}{v:Value}{n:Nat}(h:OW S0 W0 S W L ((e,v,n)::T)):SL S W e v n:=h.sl _ (List.mem_cons_self ..)
theorem OW.s1 {q:TypeId×Value×Nat}{e:TypeId}{v:Value}{n:Nat}(h:OW S0 W0 S W L (q::(e,v,n)::T)):SL S W e v n:=h.tailT.s0
theorem OW.s2 {q q2:TypeId×Value×Nat}{e:TypeId}{v:Value}{n:Nat}(h:OW S0 W0 S W L (q::q2::(e,v,n)::T)):SL S W e v n:=h.tailT.tailT.s0
theorem OW.low (h:OW noB W0 S W L T):Below W0.heap.size W0 W:=h.ev.low
theorem OW.lows (h:OW noB W0 S W L T)(b:Nat)(hb:S b):W0.heap.size<=b:=by
 rcases h.ev.new b hb with h1|h1
 ·exact h1.elim
 ·exact h1
theorem OW.draw (h:OW S0 W0 S W L T)(hlow:∀b,S b->n₀<=b)(hn:n₀<=W0.heap.size)(hI:Intz n₀ W sv xs):DY n₀ W.heap.size sv xs S0 W0 S (W.alloc (.cells #[sv,.int .i64 0] 137)) L T:=by
 have hb:Below W.heap.size W (W.alloc (.cells #[sv,.int .i64 0] 137)):=(zR _ _).alloc (yR _) _;have h1:=h.up hb;refine⟨⟨TD.new h.tw hlow (Nat.le_trans hn h.ev.size) hI,h1.ev.any,hn⟩,λp hp=> ?_,h.ne,h1.sl⟩;obtain⟨k1,k2,k3⟩:=h1.bx p hp;exact⟨k1,k2,λe=>by have:=(h.bx p hp).1.lt;omega,k3⟩
theorem DY.ow (h:DY n₀ D sv xs S0 W0 S W L T)(hT:TW S0 W0)(hD:W0.heap.size<=D):OW S0 W0 S W L T :=
 ⟨h.fin (Ev.refl hT) hD,λp hp=>by obtain⟨k1,k2,-,k4⟩:=h.bx p hp;exact⟨k1,k2,k4⟩,h.ne,h.sl⟩
end
end
section
open Go.RowKit Go.Shelf
attribute [local go_sem] Oper.semAt_some
attribute [local go_sem ↓] Go.wp_at_zero Go.wp_at_succ
variable{n₀:Nat}
theorem Mat.take {W:World}{a:Option Addr}{cap:Nat}{rows:List (Value×List Int)}(h:Mat n₀ W (.slice a rows.length cap) rows)(m:Nat)(hm:m<=rows.length):Mat n₀ W (.slice a m cap) (rows.take m):=by
 obtain⟨a',cap',e,hc,hr⟩:=h
 cases e;refine⟨a,cap,by rw[List.length_take,Nat.min_eq_left hm],by rw[List.length_take];omega,λj hj=> ?_⟩;rw[List.length_take]at hj;rw[List.getElem_take];exact hr j oM
def b3v (rows:List (Value×List Int))(k:Nat):Value:=((rows[k]?).map (·.1)).getD (.slice none 0 0)
def d6n (rows:List (Value×List Int))(k:Nat):List Int:=((rows[k]?).map (·.2)).getD []
theorem a9q {w:World}{lv:Value}{rows:List (Value×List Int)}(hM:Mat n₀ w lv rows)(k:Nat):Intz n₀ w (b3v rows k) (d6n rows k):=by
 obtain⟨a,cap,rfl,hc,hrow⟩:=hM;unfold b3v d6n;by_cases h:k<rows.length
 ·obtain⟨b,off,rfl,hb,c0,hi⟩:=hrow k h
  rw[List.getElem?_eq_getElem h];exact hi
 ·rw[List.getElem?_eq_none oM]
  exact Intz.nil _ _
theorem b6i (n₀:Nat)(w:World)(lv:Value)(rows:List (Value×List Int))(hM:Mat n₀ w lv rows)(k:Nat):
 Calls prog 72 #[lv,.int .i64 (k:Nat)] w λe w'=>e= .returned (b3v rows k)/\w=w':=by
 obtain⟨a,cap,rfl,hc,hrow⟩:=hM;go_enter func72,ntmps72;by_cases h:k<rows.length
 ·obtain⟨b,off,rfl,hb,c0,hi⟩:=hrow k h
  have hle:¬(rows.length:Int)<=(k:Int):=oM;have hlt:(k:Int)<(rows.length:Int):=oM;have hv:b3v rows k=rows[k].1:=by unfold b3v;rw[List.getElem?_eq_getElem h];rfl
  rw[hv];obtain⟨row,hrw⟩:=zE (rows[k].1);rw[hrw]at c0;rw[hrw];clear hrow hrw hi hv;exact yaw
 ·have hle:(rows.length:Int)<=(k:Int):=oM
  have hv:b3v rows k= .slice none 0 0:=by unfold b3v;rw[List.getElem?_eq_none oM];rfl
  rw[hv];clear hrow hv;exact yaw
abbrev d8f :Array Value:= #[.slice none 0 0,.slice none 0 0,.slice none 0 0,.slice none 0 0]
end
end Go.Proofs.YtfocdbjceedagaaGreatDoor
