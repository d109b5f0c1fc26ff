/-
  Parts.
-/
import Derived.Test.YtfocdbjceedagaaGreatDoorYbe
set_option linter.unusedVariables false
set_option linter.unusedSimpArgs false
namespace Go.Proofs.YtfocdbjceedagaaGreatDoor
open Tryz
section
open Go.RowKit Go.Shelf
attribute [local go_sem] Oper.semAt_some
structure OW (S0:BS)(W0:World)(S:BS)(W:World)(L:a8b)(T:SlL):Prop where
 ev:Ev noB S0 W0 S W
 bx:∀p∈L,Blk W p.1 p.2.1 p.2.2∧¬S p.1∧W0.heap.size≤p.1
 ne:(L.map (·.1)).Nodup
 sl:∀q∈T,SL S W q.1 q.2.1 q.2.2
section
variable {n₀ D:Nat}{sv:Value}{xs:List Int}{S0 S S':BS}{W0 W W':World}{L:a8b}{T:SlL}{B i:Nat}{c c2 c':Array Value}{t t2:TypeId}{p:Nat×Array Value×TypeId}
theorem OW.init (hT:TW S W):OW S W S W [] []:=⟨Ev.refl hT,fun _ h=>by simp at h,by simp,fun _ h=>by simp at h⟩
theorem OW.tw (h:OW S0 W0 S W L T):TW S W:=h.ev.ok
theorem OW.evo (h:OW S0 W0 S W L T)(he:Ev noB S W S' W'):OW S0 W0 S' W' L T :=
 ⟨h.ev.trans he,fun p hp=>by obtain⟨h1,h2,h3⟩:=h.bx p hp;exact⟨he.blk h1 h2 (fun h=>h),he.not h1.lt h2,h3⟩,h.ne,fun q hq=>he.sl (h.sl q hq)⟩
theorem OW.up (h:OW S0 W0 S W L T)(hb:Below W.heap.size W W'):OW S0 W0 S W' L T:=h.evo (Ev.of_below h.tw hb)
theorem OW.drew (h:OW S0 W0 S W L T):OW S0 W0 S W.drew L T:=h.evo (Ev.drew h.tw)
theorem OW.fresh (h:OW S0 W0 S W L T)(hb:Below W.heap.size W W')(hB:W.heap.size≤B)(hk:Blk W' B c t):OW S0 W0 S W' ((B,c,t)::L) T:=by
 have h1:=h.up hb;refine⟨h1.ev,fun p hp=> ?_,?_,h1.sl⟩
 ·rcases List.mem_cons.1 hp with rfl|hp
  ·exact⟨hk,fun hs=>by have:=h.tw.lt hs;omega,Nat.le_trans h.ev.size hB⟩
  ·exact h1.bx p hp
 ·rw[List.map_cons,List.nodup_cons]
  refine⟨fun hm=> ?_,h.ne⟩;obtain⟨p,hp,hpe⟩:=List.mem_map.1 hm;have h2:=(h.bx p hp).1.lt;simp only at hpe;omega
theorem OW.box (h:OW S0 W0 S W L T)(c:Array Value)(t:TypeId):OW S0 W0 S (W.alloc (.cells c t)) ((W.heap.size,c,t)::L) T:=h.fresh ((zR _ _).alloc (yR _) _) (yR _) (Blk.new _ _ _)
theorem OW.cellT (h:OW S0 W0 S W L T){c:Array Value}{e:TypeId}(hc:TB S W e c):OW S0 W0 (fun b=>S b∨b=W.heap.size) (W.alloc (.cells c e)) L T:=h.evo (Ev.alloc h.tw hc)
theorem OW.add (h:OW S0 W0 S W L T){e:TypeId}{v:Value}{n:Nat}(hv:SL S W e v n):OW S0 W0 S W L ((e,v,n)::T):=⟨h.ev,h.bx,h.ne,fun q hq=>by
 rcases List.mem_cons.1 hq with rfl|hq
 ·exact hv
 ·exact h.sl q hq⟩
theorem OW.tail (h:OW S0 W0 S W (p::L) T):OW S0 W0 S W L T:=⟨h.ev,fun q hq=>h.bx q (List.mem_cons_of_mem _ hq),(List.nodup_cons.1 h.ne).2,h.sl⟩
theorem OW.tailT {q:TypeId×Value×Nat}(h:OW S0 W0 S W L (q::T)):OW S0 W0 S W L T:=⟨h.ev,h.bx,h.ne,fun q hq=>h.sl q (List.mem_cons_of_mem _ hq)⟩
theorem OW.swap {q:Nat×Array Value×TypeId}(h:OW S0 W0 S W (p::q::L) T):OW S0 W0 S W (q::p::L) T:=⟨h.ev,fun r hr=>h.bx r (by
 simp only[List.mem_cons] at hr ⊢;rcases hr with h|h|h
 ·exact .inr (.inl h)
 ·exact .inl h
 ·exact .inr (.inr h)),by
  have:=h.ne;simp only[List.map_cons,List.nodup_cons,List.mem_cons,not_or] at this ⊢;exact⟨⟨fun e=>this.1.1 e.symm,this.2.1⟩,this.1.2,this.2.2⟩,h.sl⟩
theorem OW.write (h:OW S0 W0 S W ((B,c,t)::L) T)(hg:W.grownBy W' (some B))(hk:Blk W' B c2 t2):OW S0 W0 S W' ((B,c2,t2)::L) T:=by
 obtain⟨hB1,hB2,hB4⟩:=h.bx _ (List.mem_cons_self ..);have hsame:∀b,b≠B→b<W.heap.size→W'.heap[b]? =W.heap[b]? :=fun b hb hl=>hg.block b hl (fun e=>hb (Option.some.inj e))
 have hev:=h.ev.own hg (fun r e=>by cases e;exact⟨hB2,hB4⟩);have hsh:Shp S W W':=fun b c e hb hc=>⟨c,(hsame b (fun e=>hB2 (by subst e;exact hb)) hc.lt).trans hc,rfl⟩
 refine⟨hev,fun p hp=> ?_,h.ne,fun q hq=>(h.sl q hq).mono (fun _ h=>h) hsh⟩;rcases List.mem_cons.1 hp with rfl|hp'
 ·exact⟨hk,hB2,hB4⟩
 ·obtain⟨k1,k2,k4⟩:=h.bx p (List.mem_cons_of_mem _ hp')
  refine⟨k1.kept hg (fun e=> ?_),k2,k4⟩;have:=h.ne;rw[List.map_cons,List.nodup_cons] at this;exact this.1 (List.mem_map.2 ⟨p,hp',(Option.some.inj e).symm⟩)
theorem OW.set (h:OW S0 W0 S W ((B,c,t)::L) T)(i:Nat)(v:Value)(hc:c.setIfInBounds i v=c'):OW S0 W0 S (W.setCell ⟨B,i,none⟩ v) ((B,c',t)::L) T :=
 h.write (a1d W B i v) (hc▸(h.bx _ (List.mem_cons_self ..)).1.set i v)
theorem OW.put {v:Value}(h:OW S0 W0 S W ((B,c,t)::L) T)(hW:W'=W.setCell ⟨B,i,none⟩ v)(hc:c.setIfInBounds i v=c'):OW S0 W0 S W' ((B,c',t)::L) T:=hW▸h.set i v hc
theorem OW.b0 (h:OW S0 W0 S W ((B,c,t)::L) T):Blk W B c t:=(h.bx _ (List.mem_cons_self ..)).1
theorem OW.b1 (h:OW S0 W0 S W (p::(B,c,t)::L) T):Blk W B c t:=h.tail.b0
theorem OW.s0 {e:TypeId}{v:Value}{n:Nat}(h:OW S0 W0 S W L ((e,v,n)::T)):SL S W e v n:=h.sl _ (List.mem_cons_self ..)
theorem OW.s1 {q:TypeId×Value×Nat}{e:TypeId}{v:Value}{n:Nat}(h:OW S0 W0 S W L (q::(e,v,n)::T)):SL S W e v n:=h.tailT.s0
theorem OW.s2 {q q2:TypeId×Value×Nat}{e:TypeId}{v:Value}{n:Nat}(h:OW S0 W0 S W L (q::q2::(e,v,n)::T)):SL S W e v n:=h.tailT.tailT.s0
theorem OW.s3 {q q2 q3:TypeId×Value×Nat}{e:TypeId}{v:Value}{n:Nat}(h:OW S0 W0 S W L (q::q2::q3::(e,v,n)::T)):SL S W e v n:=h.tailT.tailT.tailT.s0
theorem OW.low (h:OW noB W0 S W L T):Below W0.heap.size W0 W:=h.ev.low
theorem OW.lows (h:OW noB W0 S W L T)(b:Nat)(hb:S b):W0.heap.size≤b:=by
 rcases h.ev.new b hb with h1|h1
 ·exact h1.elim
 ·exact h1
theorem OW.draw (h:OW S0 W0 S W L T)(hlow:∀b,S b→n₀≤b)(hn:n₀≤W0.heap.size)(hI:Intz n₀ W sv xs):DY n₀ W.heap.size sv xs S0 W0 S (W.alloc (.cells #[sv,.int .i64 0] 137)) L T:=by
 have hb:Below W.heap.size W (W.alloc (.cells #[sv,.int .i64 0] 137)):=(zR _ _).alloc (yR _) _;have h1:=h.up hb;refine⟨⟨TD.new h.tw hlow (Nat.le_trans hn h.ev.size) hI,h1.ev.any,hn⟩,fun p hp=> ?_,h.ne,h1.sl⟩;obtain⟨k1,k2,k3⟩:=h1.bx p hp;exact⟨k1,k2,fun e=>by have:=(h.bx p hp).1.lt;omega,k3⟩
theorem DY.ow (h:DY n₀ D sv xs S0 W0 S W L T)(hT:TW S0 W0)(hD:W0.heap.size≤D):OW S0 W0 S W L T :=
 ⟨h.fin (Ev.refl hT) hD,fun p hp=>by obtain⟨k1,k2,-,k4⟩:=h.bx p hp;exact⟨k1,k2,k4⟩,h.ne,h.sl⟩
end
end
section
open Go.RowKit Go.Shelf
attribute [local go_sem] Oper.semAt_some
attribute [local go_sem ↓] Go.wp_at_zero Go.wp_at_succ
theorem Mat.take {n₀:Nat}{W:World}{a:Option Addr}{cap:Nat}{rows:List (Value×List Int)}(h:Mat n₀ W (.slice a rows.length cap) rows)(m:Nat)(hm:m≤rows.length):Mat n₀ W (.slice a m cap) (rows.take m):=by
 obtain⟨a',cap',e,hc,hr⟩:=h
 cases e;refine⟨a,cap,by rw[List.length_take,Nat.min_eq_left hm],by rw[List.length_take];omega,fun j hj=> ?_⟩;rw[List.length_take] at hj;rw[List.getElem_take];exact hr j (by omega)
def b2i (rows:List (Value×List Int))(k:Nat):Value:=((rows[k]?).map (·.1)).getD (.slice none 0 0)
def d1q (rows:List (Value×List Int))(k:Nat):List Int:=((rows[k]?).map (·.2)).getD []
theorem a8u {n₀:Nat}{w:World}{lv:Value}{rows:List (Value×List Int)}(hM:Mat n₀ w lv rows)(k:Nat):Intz n₀ w (b2i rows k) (d1q rows k):=by
 obtain⟨a,cap,rfl,hc,hrow⟩:=hM;unfold b2i d1q;by_cases h:k<rows.length
 ·obtain⟨b,off,rfl,hb,c0,hi⟩:=hrow k h
  rw[List.getElem?_eq_getElem h];exact hi
 ·rw[List.getElem?_eq_none (by omega)]
  exact Intz.nil _ _
theorem b4y (n₀:Nat)(w:World)(lv:Value)(rows:List (Value×List Int))(hM:Mat n₀ w lv rows)(k:Nat) :
 Calls prog 72 #[lv,.int .i64 (k:Nat)] w fun e w'=>e= .returned (b2i rows k)∧w=w':=by
 obtain⟨a,cap,rfl,hc,hrow⟩:=hM;go_enter func72,ntmps72;by_cases h:k<rows.length
 ·obtain⟨b,off,rfl,hb,c0,hi⟩:=hrow k h
  have hle:¬(rows.length:Int)≤(k:Int):=by omega
  have hlt:(k:Int)<(rows.length:Int):=by omega
  have hv:b2i rows k=rows[k].1:=by unfold b2i;rw[List.getElem?_eq_getElem h];rfl
  rw[hv];obtain⟨row,hrw⟩:∃r,rows[k].1=r:=⟨_,rfl⟩;rw[hrw] at c0;rw[hrw];clear hrow hrw hi hv;go_wp2_with fail;go_ret;exact⟨rfl,rfl⟩
 ·have hle:(rows.length:Int)≤(k:Int):=by omega
  have hv:b2i rows k= .slice none 0 0:=by unfold b2i;rw[List.getElem?_eq_none (by omega)];rfl
  rw[hv];clear hrow hv;go_wp2_with fail;go_ret;exact⟨rfl,rfl⟩
theorem DY.low {D:Nat}{sv:Value}{xs:List Int}{w W:World}{S:BS}{L:a8b}{T:SlL}(h:DY w.heap.size D sv xs noB w S W L T):Below w.heap.size w W :=
 h.st.ev.below (fun _ h=>h.elim) (fun b hb=>by cases hb;exact h.td.le) (yR _)
abbrev d2x:Array Value:= #[.slice none 0 0,.slice none 0 0,.slice none 0 0,.slice none 0 0]
theorem DY.pd {n₀ D:Nat}{sv:Value}{xs:List Int}{S0 S:BS}{W0 W W':World}{L:a8b}{T:SlL}{B:Nat}{id x y wt d:Int}{cs ns:ByteArray}{t:TypeId}(h:DY n₀ D sv xs S0 W0 S W ((B,c6x id x y cs ns wt 0,t)::L) T)(hW:W'=W.setCell ⟨B,6,none⟩ (.int .i64 d)):DY n₀ D sv xs S0 W0 S W' ((B,c6x id x y cs ns wt d,t)::L) T:=h.put hW rfl
end
end Go.Proofs.YtfocdbjceedagaaGreatDoor
