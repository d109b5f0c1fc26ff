/-
  Parts.
-/
import Derived.Test.YtfocdbjceedagaaGreatDoorXbl
set_option linter.unusedVariables false
set_option linter.unusedSimpArgs false
set_option maxHeartbeats 60000000
set_option maxRecDepth 100000
namespace Go.Proofs.YtfocdbjceedagaaGreatDoor
open Tryz
section
open Go Go.RowKit Go.Shelf
theorem b1u {α:Type}{E:El α}(hE:E.Ok):∀(l:List α)(p i:Nat)(hp:p<l.length)(hi:i<E.s)(y:α)(u:Value),E.enc y=(E.enc l[p]).set i u→(l.flatMap E.enc).set (p*E.s+i) u=(l.set p y).flatMap E.enc
 |x::l,0,i,hp,hi,y,u,h=>by
  have hl:(E.enc x).length=E.s:=hE.len x;rw[List.set_cons_zero,List.flatMap_cons,List.flatMap_cons,Nat.zero_mul,Nat.zero_add,List.set_append_left _ _ (by omega),h];rfl
 |x::l,p+1,i,hp,hi,y,u,h=>by
  have hl:(E.enc x).length=E.s:=hE.len x;have hp':p<l.length:=by simpa using hp
  rw[List.set_cons_succ,List.flatMap_cons,List.flatMap_cons,List.set_append_right _ _ (by rw[hl,Nat.add_mul];omega),hl,show (p+1)*E.s+i-E.s=p*E.s+i from by rw[Nat.add_mul];omega];rw[b1u hE l p i hp' hi y u h]
theorem El.setRow {α:Type}{E:El α}(hE:E.Ok){W:World}{base g cap:Nat}{l:List α}(hr:W.ownsRow base E.t E.s (.slice (some ⟨g,0,none⟩) l.length cap) l.length (l.flatMap E.enc)){p i:Nat}(hp:p<l.length)(hi:i<E.s){y:α}{u:Value}(h:E.enc y=(E.enc l[p]).set i u) :
 (W.setCell ⟨g,p*E.s+i,none⟩ u).ownsRow base E.t E.s (.slice (some ⟨g,0,none⟩) l.length cap) (l.set p y).length ((l.set p y).flatMap E.enc):=by
 obtain⟨h1,⟨h2,-⟩|⟨g',cap',cur,h2,h3,h4,h5,h6,h7,h8⟩⟩:=hr
 ·cases h2
 ·cases h2
  have hk:Blk W g cur E.t:=h4;have h9:=b1u hE l p i hp hi y u h;have hlt:p*E.s+i<l.length*E.s:=by
   have:=Nat.mul_le_mul_right E.s (show p+1≤l.length by omega);rw[Nat.add_mul] at this;omega
  rw[List.length_set];refine⟨by rw[←h9,List.length_set];exact h1,.inr ⟨g,cap,cur.setIfInBounds (p*E.s+i) u,rfl,h3,hk.set _ _,h5,h6,by rw[Array.size_setIfInBounds];exact h7,?_⟩⟩;rw[←h9,←h8];simp only[Array.toList_setIfInBounds];rw[List.take_set]
section
variable {α:Type}{E:El α}{P:Program}{st:TypeId}{w:World}{l:List α}
end
section
variable {S0 S S':BS}{W0 W W':World}{L:a8t}{T:SlL}{ov v:Value}{l:List Pc}
theorem OY.other {o:Option Nat}(h:OY S0 W0 S W L T)(hg:W.grownBy W' o)(ho:∀g,o=some g→¬S g∧W0.heap.size≤g∧∀p∈L,p.1≠g):OY S0 W0 S W' L T:=by
 have hsame:∀b,S b→W'.heap[b]? =W.heap[b]? :=fun b hb=>hg.block b (h.tw.lt hb) (fun e=>(ho b e.symm).1 hb)
 have hev:=h.o.ev.own hg (fun r e=>⟨(ho r e).1,(ho r e).2.1⟩);have hbel:Below W0.heap.size W W':=Below.of_grown hg h.size (fun q e=>(ho q e).2.1);have hsh:Shp S W W':=fun b c e hb hc=>⟨c,(hsame b hb).trans hc,rfl⟩
 refine⟨⟨hev,fun p hp=> ?_,h.o.ne,fun q hq=>(h.o.sl q hq).mono (fun _ h=>h) hsh⟩,h.bel.trans hbel⟩;obtain⟨k1,k2,k3⟩:=h.o.bx p hp;exact⟨k1.kept hg (fun e=>(ho p.1 e).2.2 p hp rfl),k2,k3⟩
theorem OP.offL (h:OP S0 W0 S W L T ov l):∀g,ov.ownBlock=some g→¬S g∧W0.heap.size≤g∧∀p∈L,p.1≠g:=fun g hg=>by
 have h1:=(h.row.lt g hg).1;refine⟨h.off g hg,h1,fun p hp e=> ?_⟩;rcases h.row.2 with ⟨rfl,h3⟩|⟨g',cap,cur,rfl,h3,h4,h5⟩
 ·cases hg
 ·cases hg
  have k1:=(h.b.o.bx p hp).1;unfold Blk at k1;rw[e,h4] at k1;simp only[Option.some.injEq,Obj.cells.injEq] at k1;exact h.np p hp k1.2.1.symm
theorem OP.more {l':List Pc}(h:OP S0 W0 S W L T ov l)(hr:W'.ownsRow W0.heap.size 66 7 v l'.length (l'.flatMap plE.enc))(hg:W.grownBy W' ov.ownBlock)(hn:∀g,v.ownBlock=some g→ov.ownBlock=some g∨W.heap.size≤g):OP S0 W0 S W' L T v l':=by
 refine⟨h.b.other hg h.offL,hr,fun g e hs=> ?_,h.np⟩;rcases hn g e with h1|h1
 ·exact h.off g h1 hs
 ·have:=h.b.tw.lt hs
  omega
theorem OP.setRow {g cap:Nat}(h:OP S0 W0 S W L T (.slice (some ⟨g,0,none⟩) l.length cap) l){p i:Nat}(hp:p<l.length)(hi:i<7){y:Pc}{u:Value}(he:plE.enc y=(plE.enc l[p]).set i u) :
 OP S0 W0 S (W.setCell ⟨g,p*7+i,none⟩ u) L T (.slice (some ⟨g,0,none⟩) l.length cap) (l.set p y):=by
 have:=El.setRow a2l h.row hp hi he;refine h.more (by rw[List.length_set] at this ⊢;exact this) (a1g W g _ u) (fun g' e=> .inl e)
end
end
section
open Go.RowKit Go.Shelf
attribute [local go_sem] Oper.semAt_some
attribute [local go_sem ↓] Go.wp_at_zero Go.wp_at_succ
abbrev b9u:Array Value:= #[.string ⟨#[]⟩,.string ⟨#[77,111,111,114]⟩,.string ⟨#[71,97,116,101]⟩,.string ⟨#[120,32,121]⟩,.string ⟨#[32,120]⟩,.string ⟨#[120,32]⟩,.string ⟨#[97,34,98]⟩,.string ⟨#[97,98,99,100,101,102,103,104,105,106,107,108,109,110,111,112,113,114,115,116,117,118,119,120,121]⟩,.string ⟨#[65]⟩,.string ⟨#[31]⟩]
theorem a6i (k:Nat)(hk:k<1000):∃s:ByteArray,s.size≤30∧∀w:World,Calls prog 79 #[.int .i64 (k:Nat)] w fun e w'=>e= .returned (.string s)∧Below w.heap.size w w':=by
 obtain⟨m,hm,hm2⟩:∃m:Nat,(k:Int) % 10=(m:Int)∧m<10:=⟨k % 10,by omega,by omega⟩;obtain⟨s,hs,hc⟩:∃s:ByteArray,s.size≤30∧b9u[m]? =some (.string s):=by
  match m,hm2 with
  |0,_=>exact⟨_,by decide,rfl⟩
  |1,_=>exact⟨_,by decide,rfl⟩
  |2,_=>exact⟨_,by decide,rfl⟩
  |3,_=>exact⟨_,by decide,rfl⟩
  |4,_=>exact⟨_,by decide,rfl⟩
  |5,_=>exact⟨_,by decide,rfl⟩
  |6,_=>exact⟨_,by decide,rfl⟩
  |7,_=>exact⟨_,by decide,rfl⟩
  |8,_=>exact⟨_,by decide,rfl⟩
  |9,_=>exact⟨_,by decide,rfl⟩
 refine⟨s,hs,fun w=> ?_⟩;have kB:=Blk.new w b9u 9;have cs:(w.alloc (.cells b9u 9)).cell? ⟨w.heap.size,m,none⟩=some (.string s):=(kB.cell m).trans hc;have hmI:(m:Int)<10:=by omega
 have hkm:Int.tmod (k:Int) 10=(m:Int):=by rw[Int.tmod_eq_emod_of_nonneg (by omega)];exact hm
 clear kB hc;go_enter func79,ntmps79;go_wp2_with fail;go_ret;exact⟨rfl,zC⟩
end
section
open Go Go.RowKit Go.Shelf
attribute [local go_sem] Oper.semAt_some
attribute [local go_sem ↓] Go.wp_at_zero Go.wp_at_succ
theorem a1v {W:World}{base base':Nat}{e:TypeId}{s:Nat}{v:Value}{n:Nat}{xs:List Value}(h:W.ownsRow base e s v n xs)(hb:base'≤base):W.ownsRow base' e s v n xs:=by
 obtain⟨h1,h2|⟨g,cap,cur,h2,h3,h4⟩⟩:=h
 ·exact⟨h1,.inl h2⟩
 ·exact⟨h1,.inr ⟨g,cap,cur,h2,Nat.le_trans hb h3,h4⟩⟩
def a7c (l:List Pc):Nat:=l.countP (fun p=>decide (p.nm.size≠0))
structure OddR (ne nf nw:Nat)(l:List Pc)(ne' nf' nw':Nat)(l':List Pc):Prop where
 e:ne'≤ne+1
 f:nf'≤nf+1
 w:nw'≤nw+1
 p:l'.length≤l.length+82
 n:a7c l'≤a7c l+1
 ok:(∀p∈l,PcOk p)→∀p∈l',PcOk p
 cl:(∀p∈l,p.cls.size≤1000)→∀p∈l',p.cls.size≤1000
theorem OddR.refl (ne nf nw:Nat)(l:List Pc):OddR ne nf nw l ne nf nw l:=⟨by omega,by omega,by omega,by omega,by omega,fun h=>h,fun h=>h⟩
abbrev qC (q0 q1 q2:Int):Array Value:= #[.int .i64 q0,.int .i64 q1,.int .i64 q2]
theorem b7i:∀(l:List Pc)(p:Nat)(y:Pc),a7c (l.set p y)≤a7c l+1
 |[],p,y=>by simp[a7c]
 |x::l,0,y=>by
  unfold a7c;rw[List.set_cons_zero,List.countP_cons,List.countP_cons];split <;> split <;> omega
 |x::l,p+1,y=>by
  have ih:=b7i l p y;unfold a7c at ih ⊢;rw[List.set_cons_succ,List.countP_cons,List.countP_cons];omega
theorem b1v (a b:List Pc):a7c (a++b)=a7c a+a7c b:=by unfold a7c;rw[List.countP_append]
theorem OddR.set {ne nf nw:Nat}{l:List Pc}{p:Nat}(hp:p<l.length){y:Pc}(hy:PcOk l[p]→PcOk y)(hc:l[p].cls.size≤1000→y.cls.size≤1000):OddR ne nf nw l ne nf nw (l.set p y) :=
 ⟨by omega,by omega,by omega,by rw[List.length_set];omega,b7i l p y,fun h q hq=>(List.mem_or_eq_of_mem_set hq).elim (h q) (fun e=>e▸hy (h _ (List.getElem_mem hp))),fun h q hq=>(List.mem_or_eq_of_mem_set hq).elim (h q) (fun e=>e▸hc (h _ (List.getElem_mem hp)))⟩
theorem OddR.push {ne nf nw:Nat}{l:List Pc}{y:Pc}(hy:PcOk y)(hc:y.cls.size≤1000):OddR ne nf nw l ne nf nw (l++[y]) :=
 ⟨by omega,by omega,by omega,by simp,by rw[b1v];have:a7c [y]≤1:=by { unfold a7c;exact List.countP_le_length };omega,fun h q hq=>(List.mem_append.1 hq).elim (h q) (fun e=>by rw[List.mem_singleton] at e;exact e▸hy),fun h q hq=>(List.mem_append.1 hq).elim (h q) (fun e=>by rw[List.mem_singleton] at e;exact e▸hc)⟩
theorem OddR.del {ne nf nw:Nat}{l:List Pc}{p:Nat}(hp:p<l.length):OddR ne nf nw l ne nf nw (l.take p++l.drop (p+1)):=by
 have hs:(l.take p++l.drop (p+1)).Sublist l:=by
  conv=>rhs;rw[←List.take_append_drop p l]
  refine List.Sublist.append (List.Sublist.refl _) ?_;rw[List.drop_eq_getElem_cons hp];exact List.sublist_cons_self _ _
 exact⟨by omega,by omega,by omega,Nat.le_trans hs.length_le (by omega),Nat.le_trans (hs.countP_le) (Nat.le_succ _),fun h q hq=>h q (hs.subset hq),fun h q hq=>h q (hs.subset hq)⟩
theorem b7j {W:World}{base:Nat}{pa:Option Addr}{pc:Nat}{l:List Pc}(h:W.ownsRow base 66 7 (.slice pa l.length pc) l.length (l.flatMap plE.enc))(hl:l≠[]):∃g,pa=some ⟨g,0,none⟩∧l.length≤pc:=by
 rcases h.2 with ⟨e,h0⟩|⟨g,cap,cur,e,hb,hgb,hc,-⟩
 ·exact absurd (List.eq_nil_of_length_eq_zero h0) hl
 ·simp only[Value.slice.injEq,true_and] at e
  obtain⟨rfl,rfl⟩:=e;exact⟨g,rfl,hc⟩
theorem OP.cellP {S0 S:BS}{W0 W:World}{L:a8t}{T:SlL}{g pc:Nat}{l:List Pc}(h:OP S0 W0 S W L T (.slice (some ⟨g,0,none⟩) l.length pc) l)(hl:l.length≤100000){p i:Nat}(hp:p<l.length)(hi:i<7):W.cell? ⟨g,p*7+i,none⟩=(plE.enc l[p])[i]?∧W.frozen? ⟨g,p*7+i,none⟩=false:=by
 obtain⟨b',off',cap',e,-,-,hc⟩:=(a0b a2l h.row (by omega)).some_ (by omega);simp only[Value.slice.injEq,Option.some.injEq,Addr.mk.injEq] at e;obtain⟨⟨rfl,rfl,-⟩,-,-⟩:=e;have h1:=hc p hp i hi;rw[Nat.zero_add] at h1;exact⟨h1,h.row.frozenAt _⟩
theorem c9q {W:World}{base g pc:Nat}{l:List Pc}(h:W.ownsRow base 66 7 (.slice (some ⟨g,0,none⟩) l.length pc) l.length (l.flatMap plE.enc)){k:Nat}(hk:k≤l.length):W.ownsRow base 66 7 (.slice (some ⟨g,0,none⟩) k pc) (l.take k).length ((l.take k).flatMap plE.enc):=by
 have hkl:(l.take k).length=k:=by rw[List.length_take];omega
 have hf:(l.take k).flatMap plE.enc=(l.flatMap plE.enc).take (k*7):=by
  have e:(l.take k).flatMap plE.enc++(l.drop k).flatMap plE.enc=l.flatMap plE.enc:=by rw[←List.flatMap_append,List.take_append_drop]
  rw[←e,List.take_left' (by rw[a1c a2l,hkl])]
 rw[hkl];rcases h.2 with ⟨e,h0⟩|⟨g',cap,cur,e,hb,hgb,hc,hm,hs,ht⟩
 ·cases e
 ·simp only[Value.slice.injEq,Option.some.injEq,Addr.mk.injEq,true_and,and_true] at e
  obtain⟨rfl,rfl⟩:=e;refine⟨by rw[a1c a2l,hkl],.inr ⟨g,pc,cur,rfl,hb,hgb,by omega,hm,hs,?_⟩⟩;rw[hf,←ht,List.take_take,Nat.min_eq_left (Nat.mul_le_mul_right _ hk)]
theorem a6j {W:World}{base:Nat}{e:TypeId}{s:Nat}{v:Value}{n:Nat}{xs:List Value}(h:W.ownsRow base e s v n xs):Frm v n:=by
 rcases h.2 with ⟨e1,-⟩|⟨g,cap,cur,e1,-⟩
 ·exact .inl e1
 ·exact .inr ⟨g,0,cap,e1⟩
theorem Frm.or {a:Option Addr}{n cap:Nat}(h:Frm (.slice a n cap) n):(a=none∧n=0∧cap=0)∨∃b o,a=some ⟨b,o,none⟩:=by
 rcases h with hf|⟨b,o,c,hf⟩
 ·simp only[Value.slice.injEq] at hf
  exact .inl hf
 ·simp only[Value.slice.injEq] at hf
  exact .inr ⟨b,o,hf.1⟩
section
variable {α:Type}{E:El α}{W:World}{n0:Nat}{a:Option Addr}{cap k:Nat}{l:List α}
theorem b1w (hL:Lst E n0 W (.slice a l.length cap) l)(hF:Frm (.slice a l.length cap) l.length)(hk:k≤l.length):Lst E n0 W (.slice (if cap=k then a else a.map (·.add (k*E.s))) (l.length-k) (cap-k)) (l.drop k)∧Frm (.slice (if cap=k then a else a.map (·.add (k*E.s))) (l.length-k) (cap-k)) (l.drop k).length:=by
 rw[List.length_drop];have hc:l.length≤cap:=by
  obtain⟨a0,c0,e,hc⟩:=hL.form;simp only[Value.slice.injEq] at e;omega
 split
 ·rename_i he
  subst he;have h0:l.drop cap=[]:=List.drop_eq_nil_of_le hc;have h1:l.length-cap=0:=by omega
  rw[h0,h1,Nat.sub_self];rcases hF.or with ⟨rfl,-,-⟩|⟨b,o,rfl⟩
  ·exact⟨Lst.nil _ _ _,.inl rfl⟩
  ·exact⟨⟨_,_,rfl,yR _,by simp,fun j hj=>by simp at hj⟩,.inr ⟨_,_,_,rfl⟩⟩
 ·rename_i he
  rcases hF.or with ⟨rfl,h0,rfl⟩|⟨b,o,rfl⟩
  ·omega
  ·have h1:=Lst.drop hL k hk
   have e:(Option.map (fun x:Addr=>x.add (k*E.s)) (some ⟨b,o,none⟩))=some ⟨b,o+k*E.s,none⟩:=by rw[Option.map_some,Addr.add_lit]
   rw[e];exact⟨h1,.inr ⟨b,o+k*E.s,cap-k,rfl⟩⟩
end
theorem OP.setRow2 {S0 S:BS}{W0 W:World}{L:a8t}{T:SlL}{g cap:Nat}{l:List Pc}(h:OP S0 W0 S W L T (.slice (some ⟨g,0,none⟩) l.length cap) l){p i j:Nat}(hp:p<l.length)(hi:i<7)(hj:j<7){y1 y:Pc}{u v:Value}(he1:plE.enc y1=(plE.enc l[p]).set i u)(he:plE.enc y=(plE.enc y1).set j v) :
 OP S0 W0 S ((W.setCell ⟨g,p*7+i,none⟩ u).setCell ⟨g,p*7+j,none⟩ v) L T (.slice (some ⟨g,0,none⟩) l.length cap) (l.set p y):=by
 have h1:=h.setRow hp hi he1;have h2:OP S0 W0 S (W.setCell ⟨g,p*7+i,none⟩ u) L T (.slice (some ⟨g,0,none⟩) (l.set p y1).length cap) (l.set p y1):=by rw[List.length_set];exact h1
 have h3:=h2.setRow (p:=p) (y:=y) (u:=v) (by rw[List.length_set];exact hp) hj (by rw[List.getElem_set_self];exact he);rw[List.set_set,List.length_set] at h3;exact h3
section
variable {α:Type}{E:El α}{P:Program}{st:TypeId}
theorem El.append_joinO (hE:E.Ok)(hI:E.In P st)(W:World)(base:Nat)(v xv:Value)(l l2:List α)(ty:TypeId)(hv:W.ownsRow base E.t E.s v l.length (l.flatMap E.enc))(hsm:∃g c,v= .slice (some ⟨g,0,none⟩) l.length c){n0:Nat}(hx:Lst E n0 W xv l2)(hf:Frm xv l2.length)(hl:l.length+l2.length≤100000)(hb:base≤W.heap.size) :
 ∃v' W',(Builtin.append_ #[st,st] ty #[v,xv]).run P W= .ok v' W'∧W'.ownsRow base E.t E.s v' (l++l2).length ((l++l2).flatMap E.enc)∧W.grownBy W' v.ownBlock∧Below base W W'∧(∃g cap,v'= .slice (some ⟨g,0,none⟩) (l++l2).length cap)∧(v'.ownBlock=v.ownBlock∨v'.ownBlock=some W.heap.size):=by
 obtain⟨i0,z,hi0,hz0,hz1,hz2,hz3⟩:=hI.info;obtain⟨g,c,rfl⟩:=hsm;by_cases hne:l2=[]
 ·subst hne
  have hs:Src P i0.size st xv 0 [] W:=by
   rcases hf with rfl|⟨b,off,cap,rfl⟩
   ·exact Src.ofNil W hI.under 0
   ·exact Src.ofSlice W hI.under _ 0 cap [] (by simp) (by simp) (by simp)
  have hlc:l.length+0≤c:=by
   rcases hv.2 with ⟨e,-⟩|⟨g',cap',cur,e,-,-,h1,-⟩
   ·cases e
   ·simp only[Value.slice.injEq,true_and] at e
    omega
  have hr:=run_append_room_src (P:=P) W st st ty E.t i0 hI.under hi0 g 0 l.length c xv 0 [] hs hlc (by simp) (by simp);refine⟨_,_,hr,?_,?_,?_,⟨g,c,?_⟩,.inl rfl⟩
  ·rw[List.append_nil];exact hv
  ·exact⟨rfl,rfl,rfl,yR _,fun _ _ _=>rfl⟩
  ·exact⟨rfl,rfl,rfl,yR _,fun _ _=>rfl⟩
  ·rw[List.append_nil];rfl
 ·have hpos:0<l2.length:=List.length_pos_iff.2 hne
  obtain⟨b,off,cap,rfl,hcap,hbn,-⟩:=hx.some_ hpos;have hnews:∀j u,(l2.flatMap E.enc)[j]? =some u→W.cell? ((⟨b,off,none⟩:Addr).add j)=some u:=fun j u hj=>by
   rw[Addr.add_lit];exact hx.flat hE j u hj
  obtain⟨v',W',hr,hown,hg,-,hob⟩:=run_append_own_at (P:=P) W base st ty E.t i0 _ E.s i0.bytes hI.under hi0 hz0 hz1 rfl hz3 hE.pos _ l.length _ hv ⟨b,off,none⟩ l2.length cap (l2.flatMap E.enc) (a1c hE l2) hnews (a4x hE l2) (by unfold maxLen;omega) (Nat.le_trans (Nat.mul_le_mul (show l.length+l2.length≤100000 by omega) hz2) (by decide)) hb;have hform:∃g cap,v'= .slice (some ⟨g,0,none⟩) (l++l2).length cap:=by
   rw[List.length_append];rcases hown.2 with ⟨-,e⟩|⟨g',cap',cur,e,-⟩
   ·omega
   ·exact⟨g',cap',e⟩
  refine⟨v',W',hr,?_,hg,a1i hg hb (fun k e=>(hv.lt k e).1),hform,hob⟩;rw[List.length_append,List.flatMap_append];exact hown
theorem El.joinO (hE:E.Ok)(hI:E.In P st){ops:Array Oper}{rest:List Oper}{o:Oper}{a:Act}{w:World}{Q:Exit→Act→World→Prop}(hgd:o.guard=none)(s x:Operand)
 (ho:o.op= .call { callee:= .builtin .append,args:= #[s,x],argTypes:= #[st,st] })
 (base:Nat) {v:Value} (hs:a.eval s=v) (l:List α) (hv:w.ownsRow base E.t E.s v l.length (l.flatMap E.enc)) (hsm:∃g c,v= .slice (some ⟨g,0,none⟩) l.length c) {xv:Value} (l2:List α) (hxv:a.eval x=xv) {n0:Nat} (hx:Lst E n0 w xv l2) (hf:Frm xv l2.length) (hl:l.length+l2.length≤100000) (hb:base≤w.heap.size)
 (h:∀v' w',w'.ownsRow base E.t E.s v' (l++l2).length ((l++l2).flatMap E.enc)→w.grownBy w' v.ownBlock→(∃g cap,v'= .slice (some ⟨g,0,none⟩) (l++l2).length cap)→(∀g,v'.ownBlock=some g→v.ownBlock=some g∨w.heap.size≤g)→wpList P ops Q rest (a.put o.dst v') w') :
 wpList P ops Q (o::rest) a w:=by
 obtain⟨v',w',hr,h2,h3,h4,h5,h6⟩:=El.append_joinO hE hI w base v xv l l2 o.type hv hsm hx hf hl hb;refine wpList_plain hgd fun K hK=> ?_
 unfold Oper.wp execOp;simp only[ho,resolve,invoke,builtin,Sem.run_bind,Sem.run_pure,Result.andThen_ok,List.map_toArray,List.map_cons,List.map_nil,hs,hxv,hr];refine hK _ _ (h v' w' h2 h3 h5 fun g e=> ?_);rcases h6 with h6|h6
 ·exact .inl (h6▸e)
 ·rw[h6] at e
  cases e;exact .inr (yR _)
theorem El.pushAt (hE:E.Ok)(hI:E.In P st){ops:Array Oper}{rest:List Oper}{o:Oper}{a:Act}{w:World}{l:List α}{Q:Exit→Act→World→Prop}(hgd:o.guard=none)(sO xO:Operand)(ho:o.op= .call { callee:= .builtin .append,args:= #[sO,xO],argTypes:= #[st,st] })
 {base:Nat} {v:Value} (hs:a.eval sO=v) (hrow:w.ownsRow base E.t E.s v l.length (l.flatMap E.enc)) (x:α) {H:Nat} (hx:a.eval xO= .slice (some ⟨H,0,none⟩) 1 1) (hH:Blk w H (E.enc x).toArray E.t) (hbase:base≤w.heap.size) (hl:l.length≤100000)
 (h:∀v' w',w'.ownsRow base E.t E.s v' (l++[x]).length ((l++[x]).flatMap E.enc)→w.grownBy w' v.ownBlock→(∀g,v'.ownBlock=some g→v.ownBlock=some g∨w.heap.size≤g)→wpList P ops Q rest (a.put o.dst v') w') :
 wpList P ops Q (o::rest) a w:=by
 obtain⟨i,z,hi,hz,hsz,hby,hzs⟩:=hI.info;have hlen:=hE.len x;refine wpList_append_lies _ hgd sO xO st ho base E.t i z E.s i.bytes hI.under hi hz hsz rfl hzs hE.pos v l.length _ hs hrow ⟨H,0,none⟩ 1 1 (E.enc x) hx (by rw[hlen,Nat.one_mul]) (World.news_of_block hH) (hE.one x) (by omega) (by unfold maxLen;omega) (Nat.le_trans (Nat.mul_le_mul (Nat.add_le_add_right hl 1) hby) (by decide)) hbase _ rfl ?_;intro g cap w' hown hg hgo hlt;refine h _ w' (by simpa [List.flatMap_append] using hown) hg fun g' e=> ?_
 simp only[Value.ownBlock,Option.some.injEq] at e;subst e;rcases hgo with h1|h1
 ·exact .inl h1
 ·exact .inr (by rw[h1];exact yR _)
end
theorem OP.store {S0 S:BS}{W0 W:World}{L:a8t}{T:SlL}{ov:Value}{l:List Pc}(h:OP S0 W0 S W L T ov l){e:TypeId}{b off n cap s:Nat}(he:ET e s)(hv:SL S W e (.slice (some ⟨b,off,none⟩) n cap) n)(ho:Own W0.heap.size (.slice (some ⟨b,off,none⟩) n cap))(k i:Nat)(ct:CT)(hct:(a2r e)[i]? =some ct)(u:Value)(hu:ct.ok S W u) :
 OP S0 W0 S (W.setCell ⟨b,off+k*s+i,none⟩ u) L T ov l∧W.frozen? ⟨b,off+k*s+i,none⟩=false:=by
 obtain⟨h1,h2⟩:=SL.store (X:=noB) h.b.tw he hv k i ct hct u hu;exact⟨h.evo h1 ((zR _ W).grown (a1g W b _ u) h.b.size (fun q e=>by cases e;exact ho _ _ _ rfl)),h2⟩
theorem SL.face5 {S:BS}{W:World}{b off n cap:Nat}(hT:TW S W)(h:SL S W 140 (.slice (some ⟨b,off,none⟩) n cap) n){k:Nat}(hk:k<n):∃id cs ns wt ds,W.cell? ⟨b,off+k*5,none⟩=some (.int .i64 id)∧W.cell? ⟨b,off+k*5+1,none⟩=some (.string cs)∧W.cell? ⟨b,off+k*5+2,none⟩=some (.string ns)∧W.cell? ⟨b,off+k*5+3,none⟩=some (.int .i64 wt)∧W.cell? ⟨b,off+k*5+4,none⟩=some (.int .i64 ds)∧a0k id∧cs.size≤30∧ns.size≤30∧a0k wt∧a0k ds:=by
 obtain⟨u0,c0,h0⟩:=h.cell hT a1m hk 0 .int rfl;obtain⟨u1,c1,h1⟩:=h.cell hT a1m hk 1 .str rfl;obtain⟨u2,c2,h2⟩:=h.cell hT a1m hk 2 .str rfl;obtain⟨u3,c3,h3⟩:=h.cell hT a1m hk 3 .int rfl;obtain⟨u4,c4,h4⟩:=h.cell hT a1m hk 4 .int rfl;obtain⟨id,rfl,f0⟩:=h0.i rfl;obtain⟨cs,rfl,f1⟩:=h1.s rfl;obtain⟨ns,rfl,f2⟩:=h2.s rfl;obtain⟨wt,rfl,f3⟩:=h3.i rfl;obtain⟨ds,rfl,f4⟩:=h4.i rfl;exact⟨id,cs,ns,wt,ds,c0,c1,c2,c3,c4,f0,f1,f2,f3,f4⟩
abbrev mZ:Array Value:= #[.slice none 0 0,.slice none 0 0,.slice none 0 0,.slice none 0 0]
abbrev d3q:Array Value:= #[.string ⟨#[]⟩,.string ⟨#[70,105,101,108,100]⟩,.string ⟨#[119,111,111,100]⟩,.string ⟨#[97,98,99,100,101,102,103,104,105,106,107,108,109]⟩,.string ⟨#[108,97,107,101]⟩]
theorem Own.sliceG {m n c:Nat}{a:Option Addr}(h:Own m (.slice a n c))(n':Nat):Own m (.slice a n' c):=fun a' k' c' e=>by
 cases e;exact h a' n c rfl
theorem a0n {a:Nat}{m:Int}(h:a≤1000):a0k (Int.tmod (a:Int) m):=by
 have h1:(Int.tmod (a:Int) m).natAbs≤a:=by
  rw[Int.natAbs_tmod];simpa using Nat.mod_le a m.natAbs
 exact⟨by omega,by omega⟩
def FG1 (BO k n p q nf fb fo fc1:Nat)(s:ByteArray)(i:Nat)(v:Value)(g:BS)(w:World):Prop :=
 match i with
 |0=>v= .pointer (some ⟨BO,1,none⟩)
 |1=>v= .slice (some ⟨fb,fo,none⟩) nf fc1
 |2=>v= .int .i64 (k:Nat)
 |3=>v= .pointer (some ⟨BO,1,none⟩)
 |4=>v= .slice (some ⟨fb,fo,none⟩) nf fc1
 |5=>v= .int .i64 (nf:Nat)
 |6=>v= .int .i64 (p:Nat)
 |7=>∃Z,v= .slice (some ⟨Z,0,none⟩) 5 5∧Blk w Z d3q 9∧¬g Z
 |8=>v= .int .i64 (n:Nat)
 |9=>v= .int .i64 (q:Nat)
 |10=>∃Z,v= .pointer (some ⟨Z,q,none⟩)∧Blk w Z d3q 9∧¬g Z
 |11=>v= .string s
 |_=>False
theorem FG1.kept {BO k n p q nf fb fo fc1:Nat}{s:ByteArray}{i:Nat}{v:Value}{g g':BS}{w w':World}(h:FG1 BO k n p q nf fb fo fc1 s i v g w)(hg:Ev noB g w g' w'):FG1 BO k n p q nf fb fo fc1 s i v g' w':=by
 unfold FG1 at *;split at h
 all_goals first|exact h|(obtain⟨Z,h1,h2,h3⟩:=h;exact⟨Z,h1,hg.blk h2 h3 (fun h=>h),hg.not h2.lt h3⟩)|(exact h)
def FG9 (BO n k nw:Nat)(wa1:Option Addr)(wc1:Nat)(s:ByteArray)(i:Nat)(v:Value)(g:BS)(w:World):Prop :=
 match i with
 |0=>v= .pointer (some ⟨BO,2,none⟩)
 |1=>v= .slice wa1 nw wc1
 |2=>v= .int .i64 (n:Nat)
 |3=>∃x,v= .int .i64 x∧a0k x
 |4=>v= .int .i64 (n:Nat)
 |5=>∃x,v= .int .i64 x∧a0k x
 |6=>∃x,v= .agg #[.int .i64 x,.int .i64 20]∧a0k x
 |7=>v= .agg #[.int .i64 55,.int .i64 65]
 |8=>SL g w 26 v 2
 |9=>v= .int .i64 (k:Nat)
 |10=>∃x,v= .int .i64 x∧a0k x
 |11=>v= .int .i64 (k:Nat)
 |12=>v= .string s
 |13=>v= .int .i64 (n:Nat)
 |14=>∃x,v= .int .i64 x∧a0k x
 |15=>v= .int .i64 (k:Nat)
 |16=>∃x,v= .int .i64 x∧a0k x
 |17=>∃x,v= .int .i64 x∧a0k x
 |18=>∃a lev wt ds sv,v= .agg #[.int .i64 a,sv,.int .i64 lev,.string ⟨#[112,97,116,104]⟩,.string s,.bool false,.int .i64 wt,.int .i64 ds]∧a0k a∧a0k lev∧a0k wt∧a0k ds∧SL g w 26 sv 2
 |19=>SL g w 149 v 1
 |_=>False
theorem FG9.kept {BO n k nw:Nat}{wa1:Option Addr}{wc1:Nat}{s:ByteArray}{i:Nat}{v:Value}{g g':BS}{w w':World}(h:FG9 BO n k nw wa1 wc1 s i v g w)(hg:Ev noB g w g' w'):FG9 BO n k nw wa1 wc1 s i v g' w':=by
 unfold FG9 at *;split at h
 all_goals first|exact h|(exact h)|(exact hg.sl h)|(obtain⟨a,lev,wt,ds,sv,h1,h2,h3,h4,h5,h6⟩:=h;exact⟨a,lev,wt,ds,sv,h1,h2,h3,h4,h5,hg.sl h6⟩)
abbrev d3l:Array Value:= #[.int .i64 0,.int .i64 1073741824,.int .i64 1073741825,.int .i64 70]
def FG14 (BO n k q:Nat)(pa1:Option Addr)(l:List Pc)(pc1:Nat)(s:ByteArray)(z:Int)(i:Nat)(v:Value)(g:BS)(w:World):Prop :=
 match i with
 |0=>v= .pointer (some ⟨BO,3,none⟩)
 |1=>v= .slice pa1 l.length pc1
 |2=>∃Z,v= .slice (some ⟨Z,0,none⟩) 4 4∧Blk w Z d3l 3∧¬g Z
 |3=>v= .int .i64 (n:Nat)
 |4=>v= .int .i64 (q:Nat)
 |5=>∃Z,v= .pointer (some ⟨Z,q,none⟩)∧Blk w Z d3l 3∧¬g Z
 |6=>v= .int .i64 z
 |7=>v= .int .i64 (n:Nat)
 |8=>∃x,v= .int .i64 x∧a0k x
 |9=>∃x,v= .int .i64 x∧a0k x
 |10=>v= .int .i64 (n:Nat)
 |11=>∃x,v= .int .i64 x∧a0k x
 |12=>∃x,v= .int .i64 x∧a0k x
 |13=>v= .int .i64 (k:Nat)
 |14=>∃x,v= .int .i64 x∧a0k x
 |15=>∃x,v= .int .i64 x∧a0k x
 |16=>∃x y,v= .agg #[.int .i64 x,.int .i64 y]∧a0k x∧a0k y
 |17=>v= .int .i64 (k:Nat)
 |18=>v= .string s
 |19=>v= .int .i64 (n:Nat)
 |20=>∃x,v= .int .i64 x∧a0k x
 |21=>∃x,v= .int .i64 x∧a0k x
 |22=>∃y:Pc,v=plV y∧PcOk y∧y.cls.size≤1000
 |23=>∃H y,v= .slice (some ⟨H,0,none⟩) 1 1∧Blk w H (plE.enc y).toArray 66∧¬g H∧PcOk y∧y.cls.size≤1000
 |_=>False
theorem FG14.kept {BO n k q:Nat}{pa1:Option Addr}{l:List Pc}{pc1:Nat}{s:ByteArray}{z:Int}{i:Nat}{v:Value}{g g':BS}{w w':World}(h:FG14 BO n k q pa1 l pc1 s z i v g w)(hg:Ev noB g w g' w'):FG14 BO n k q pa1 l pc1 s z i v g' w':=by
 unfold FG14 at *;split at h
 all_goals first|exact h|(obtain⟨Z,h1,h2,h3⟩:=h;exact⟨Z,h1,hg.blk h2 h3 (fun h=>h),hg.not h2.lt h3⟩)|(exact h)|(obtain⟨Z,y,h1,h2,h3,h4⟩:=h;exact⟨Z,y,h1,hg.blk h2 h3 (fun h=>h),hg.not h2.lt h3,h4⟩)
structure OO (w:World)(BO BR BQ BM:Nat)(q0 q1 q2:Int)(M0:Array Value)(S:BS)(W:World)(ev fv wv pv:Value)(ne nf nw:Nat)(l:List Pc):Prop where
 p:OP noB w S W [(BO,#[ev,fv,wv,pv],37),(BR,mZ,37),(BQ,qC q0 q1 q2,23),(BM,M0,37)] [(206,ev,ne),(140,fv,nf),(149,wv,nw)] pv l
 oe:Own w.heap.size ev
 of:Own w.heap.size fv
 ow:Own w.heap.size wv
def a0q (kk:Int):Prop:=∀(U:BS)(w:World)(ev fv wv pv:Value)(ne nf nw:Nat)(l:List Pc)(hI:MapI U w ev fv wv pv ne nf nw l)(q0 q1 q2:Int)(fq0:a0k q0)(fq1:a0k q1)(fq2:a0k q2),q0 % 17=kk →
    Calls prog 31 #[.agg #[ev,fv,wv,pv],.agg (qC q0 q1 q2)] w fun e w'=>∃S' ev' fv' wv' pv' ne' nf' nw' l',e= .returned (.agg #[ev',fv',wv',pv'])∧MapR w.heap.size S' w' ev' fv' wv' pv' ne' nf' nw' l'∧OddR ne nf nw l ne' nf' nw' l'∧Ev noB noB w S' w'
theorem a2z {w w':World}(hB:Below w.heap.size w w'){b o:Nat}{v:Value}(h:w.cell? ⟨b,o,none⟩=some v):w'.cell? ⟨b,o,none⟩=some v:=by
 have hlt:=World.block_lt_of_cell? _ _ h;exact (Below.cell hB (p:=⟨b,o,none⟩) hlt).trans h
theorem Own.slice {m n c:Nat}{a:Option Addr}(h:Own m (.slice a n c))(n':Nat):Own m (.slice a n' c):=fun a' k' c' e=>by
 cases e;exact h a' n c rfl
theorem OY.append_e {S0 S:BS}{W0 W:World}{L:a8t}{T:SlL}(h0:OY S0 W0 S W L T){o:Oper}{a:Act}{K:Act→World→Prop}{Q:Exit→Act→World→Prop}(sO xO:Operand)(t:TypeId)(ho:o.op= .call { callee:= .builtin .append,args:= #[sO,xO],argTypes:= #[t,t] })
 {e:TypeId} {s:Nat} (ht:prog.underlying t=some (.slice e)) (he:ET e s) {sv xv:Value} {n m:Nat} (hsv:a.eval sO=sv) (hv:SL S W e sv n) (hown:Own W0.heap.size sv) (hxv:a.eval xO=xv) (hx:SL S W e xv m) (hl:n+m≤1000000)
 (h:∀v' S' w',OY S0 W0 S' w' L ((e,v',n+m)::T)→Own W0.heap.size v'→Ev noB S W S' w'→K (a.put o.dst v') w'):Oper.wp prog o a W K Q:=by
 obtain⟨v',S',w',hr,h2,h3,h4,h5⟩:=a8v (X:=noB) h0.tw (ty:=o.type) ht he hv hx hl h0.size hown;unfold Oper.wp execOp;simp only[ho,resolve,invoke,builtin,Sem.run_bind,Sem.run_pure,Result.andThen_ok,List.map_toArray,List.map_cons,List.map_nil,hsv,hxv,hr];exact h v' S' w' ((h0.evo h3 h4).add h2) h5 h3
def FO7 (n0 B15 n k p eb eo e1c:Nat)(cx:Int)(i:Nat)(v:Value)(g:BS)(w:World):Prop :=
 match i with
 |0=>v= .slice (some ⟨eb,eo,none⟩) k e1c
 |1=>v= .int .i64 (n:Nat)
 |2=>∃x,v= .int .i64 x∧a0k x
 |3=>v= .agg #[.int .i64 cx,.int .i64 90]
 |4=>v= .pointer (some ⟨B15,0,none⟩)
 |5=>v= .int .i64 cx
 |6=>∃x,v= .int .i64 x∧a0k x
 |7=>∃x,v= .agg #[.int .i64 x,.int .i64 90]∧a0k x
 |8=>v= .pointer (some ⟨B15,0,none⟩)
 |9=>v= .int .i64 cx
 |10=>v= .agg #[.int .i64 cx,.int .i64 95]
 |11=>v= .agg #[.int .i64 cx,.int .i64 90]
 |12=>SL g w 26 v 4
 |13=>∃Z,v= .slice (some ⟨Z,0,none⟩) 3 3∧Blk w Z #[.int .i64 0,.int .i64 22,.int .i64 28] 3∧¬g Z
 |14=>v= .int .i64 (n:Nat)
 |15=>v= .int .i64 (p:Nat)
 |16=>∃Z,v= .pointer (some ⟨Z,p,none⟩)∧Blk w Z #[.int .i64 0,.int .i64 22,.int .i64 28] 3∧¬g Z
 |17=>∃x,v= .int .i64 x∧a0k x
 |18=>∃a c sv,v= .agg #[.int .i64 a,sv,.int .i64 21,.int .i64 c]∧a0k a∧a0k c∧SL g w 26 sv 4
 |19=>SL g w 206 v 1
 |20=>SL g w 206 v (k+1)∧Own n0 v
 |_=>False
theorem FO7.kept {n0 B15 n k p eb eo e1c:Nat}{cx:Int}{i:Nat}{v:Value}{g g':BS}{w w':World}(h:FO7 n0 B15 n k p eb eo e1c cx i v g w)(hg:Ev noB g w g' w'):FO7 n0 B15 n k p eb eo e1c cx i v g' w':=by
 unfold FO7 at *;split at h
 all_goals first|exact h|(exact h)|(exact hg.sl h)|(obtain⟨Z,h1,h2,h3⟩:=h;exact⟨Z,h1,hg.blk h2 h3 (fun h=>h),hg.not h2.lt h3⟩)|(obtain⟨a,c,sv,h1,h2,h3,h4⟩:=h;exact⟨a,c,sv,h1,h2,h3,hg.sl h4⟩)|(exact⟨hg.sl h.1,h.2⟩)
theorem SL.blk_ {S:BS}{W:World}{e:TypeId}{b off n cap:Nat}(h:SL S W e (.slice (some ⟨b,off,none⟩) n cap) n):∃c,Blk W b c e:=by
 obtain⟨a',cap',h0,h1,⟨rfl,rfl⟩|⟨b',o,c,rfl,hb,hc,hl⟩⟩:=h
 ·simp at h0
 ·simp only[Value.slice.injEq,Option.some.injEq,Addr.mk.injEq,and_true,true_and] at h0
  obtain⟨⟨rfl,-⟩,-⟩:=h0;exact⟨c,hc⟩
structure O7 (w:World)(S:BS)(W:World)(e1 f1:Value)(ne nf:Nat)(L:a8t):Prop where
 b:OY noB w S W L [(206,e1,ne),(140,f1,nf)]
 oe:Own w.heap.size e1
 of:Own w.heap.size f1
theorem b7k:a0q 5:=by
 unfold a0q;intro U w ev fv wv pv ne nf nw l hI q0 q1 q2 fq0 fq1 fq2 hcase;have hnf:=hI.nf;have hne:=hI.ne;have hnw:=hI.nw;have hnp:=hI.np;go_enter func31,ntmps31;go_upto_region 1 with fail;refine a0g (fun W1 hW1=> ?_);have h1:=(((OY.init (TW.none w)).box #[ev,fv,wv,pv] 37).box (qC q0 q1 q2) 23).box #[.slice none 0 0,.slice none 0 0,.slice none 0 0,.slice none 0 0] 37;obtain⟨ea,ec,rfl,hec⟩:=hI.e.form;obtain⟨fa,fc,rfl,hfc⟩:=hI.f.form;obtain⟨wa,wc,rfl,hwc⟩:=hI.w.form;obtain⟨pa,pc,rfl,hpc⟩:=hI.p.form;obtain⟨BM,hBM⟩:∃b,w.heap.size=b:=⟨_,rfl⟩;simp only[World.size_alloc] at h1;rw[←hW1,hBM] at h1;rw[hBM];obtain⟨BQ,hBQ⟩:∃b,BM+1=b:=⟨_,rfl⟩;obtain⟨BR,hBR⟩:∃b,BM+1+1=b:=⟨_,rfl⟩;rw[hBR,hBQ] at h1;rw[hBR,hBQ];have hI1:=hI.up h1.bel;obtain⟨m0,m1,m2,m3⟩:=a0l h1.b2;clear hW1;go_upto_region 2 with (first
  |(go_at_call 76;(with_reducible refine (a1j U W1 _ _ _ _ ne nf nw l hI1).mono ?_);rintro e WC⟨SC,ev1,fv1,wv1,pv1,rfl,hR,hev⟩;obtain⟨ea1,ec1,rfl,hec1⟩:=hR.e.form;obtain⟨fa1,fc1,rfl,hfc1⟩:=hR.f.form;obtain⟨wa1,wc1,rfl,hwc1⟩:=hR.w.form;obtain⟨pa1,pc1,rfl,hpc1⟩:=(a0b a2l hR.row (by omega)).form)
  |fail)
 have hSn:∀b,SC b→w.heap.size≤b:=fun b hb=>(hev.new b hb).elim (fun h=>h.elim) (fun h=>Nat.le_trans h1.size h)
 have hPC:OP noB w _ WC _ _ _ l:=⟨((((h1.evn hev).add (a0z hR.w)).add (a0z hR.f)).add (a0z hR.e)),a1v hR.row h1.size,fun g hg hs=>hs.elim (fun h=>h.elim) (fun h=>hR.off g hg h),by simp⟩;refine a0g (fun WD hWD=> ?_);have hPD:=hPC.box #[.slice ea1 ne ec1,.slice fa1 nf fc1,.slice wa1 nw wc1,.slice pa1 l.length pc1] 37 (by decide);obtain⟨BO,hBO⟩:∃b,WC.heap.size=b:=⟨_,rfl⟩;rw[←hWD,hBO] at hPD;rw[hBO];have hO:OO w BO BR BQ BM q0 q1 q2 _ _ WD _ _ _ _ ne nf nw l:=⟨hPD,a0y hR.e hSn,a0y hR.f hSn,a0y hR.w hSn⟩;clear hPD hPC hR hev hSn hWD hBO h1 hI1 m0 m1 m2 m3;obtain⟨S9,hS9⟩:∃S:BS,(fun b=>False∨SC b)=S:=⟨_,rfl⟩;rw[hS9] at hO;clear hS9 hI;obtain⟨n,hn,hn60⟩:∃n:Nat,q1 % 60=(n:Int)∧n<60:=⟨(q1 % 60).toNat,by omega,by omega⟩;obtain⟨k,hk,hk64⟩:∃n:Nat,q2 % 64=(n:Int)∧n<64:=⟨(q2 % 64).toNat,by omega,by omega⟩;obtain⟨r,hr,hr17⟩:∃n:Nat,q0 % 17=(n:Int)∧n<17:=⟨(q0 % 17).toNat,by omega,by omega⟩;have hrN:=Lib.hid (show r=5 by omega);clear hcase;have hm1:=a0p q1 60 WD fq1 (by decide) (by decide);have hm2:=a0p q2 64 WD fq2 (by decide) (by decide);have hm3:=a0p q0 17 WD fq0 (by decide) (by decide);rw[hn] at hm1;rw[hk] at hm2;rw[hr] at hm3;obtain⟨i0,i1,i2⟩:WD.cell? ⟨BQ,0,none⟩=some (.int .i64 q0)∧WD.cell? ⟨BQ,1,none⟩=some (.int .i64 q1)∧WD.cell? ⟨BQ,2,none⟩=some (.int .i64 q2):=⟨hO.p.b.b2.cell 0,hO.p.b.b2.cell 1,hO.p.b.b2.cell 2⟩;go_upto_block 0 with (first
  |(go_at_call 77;(with_reducible refine hm1.mono ?_);rintro e W'⟨rfl,rfl⟩)
  |(go_at_call 77;(with_reducible refine hm2.mono ?_);rintro e W'⟨rfl,rfl⟩)
  |(go_at_call 77;(with_reducible refine hm3.mono ?_);rintro e W'⟨rfl,rfl⟩)
  |fail)
 clear hm1 hm2 hm3 hr hn hk hBM hBQ hBR;generalize hM0: #[Value.slice ea ne ec,.slice fa nf fc,.slice wa nw wc,.slice pa l.length pc]=M0 at hO;go_cut [] (fun wx=>∃S ev' fv' wv' pv' ne' nf' nw' l',OO w BO BR BQ BM q0 q1 q2 M0 S wx ev' fv' wv' pv' ne' nf' nw' l'∧OddR ne nf nw l ne' nf' nw' l')
 case rest =>
  obtain⟨S',ev',fv',wv',pv',ne',nf',nw',l',hO',hR⟩:=hcut;obtain⟨e1,c1,rfl,-⟩:=hO'.p.b.s0.form;obtain⟨e2,c2,rfl,-⟩:=hO'.p.b.s1.form;obtain⟨e3,c3,rfl,-⟩:=hO'.p.b.s2.form;obtain⟨e4,c4,rfl,-⟩:=(a0b a2l hO'.p.row (by have:=hR.p;omega)).form;obtain⟨b0,b1,b2,b3⟩:=a0l hO'.p.b.b0;obtain⟨r0,r1,r2,r3⟩:=a0l hO'.p.b.b1;have z0:=hO'.p.b.b1.frozen 0;have z1:=hO'.p.b.b1.frozen 1;have z2:=hO'.p.b.b1.frozen 2;have z3:=hO'.p.b.b1.frozen 3;have hX:=((((hO'.p.tail.put (i:=0) (v:= .slice e1 ne' c1) rfl rfl).put (i:=1) (v:= .slice e2 nf' c2) rfl rfl).put (i:=2) (v:= .slice e3 nw' c3) rfl rfl).put (i:=3) (v:= .slice e4 l'.length c4) (c':= #[.slice e1 ne' c1,.slice e2 nf' c2,.slice e3 nw' c3,.slice e4 l'.length c4]) rfl rfl);go_wp2_with fail;exact bodyPost_ret (results_cell_row (by rfl) _ _ BR 37 _ (0,0) _ (by rfl) hX.b.b0 underlying37 (by rfl) (by kernel_rfl)) rfl ⟨S',_,_,_,_,ne',nf',nw',l',rfl,⟨hX.b.s0,hX.b.s1,hX.b.s2,hX.row,hX.off⟩,hR,hX.b.o.ev⟩
 case first =>
  obtain⟨b0,b1,b2,b3⟩:=a0l hO.p.b.b0;clear hM0;obtain rfl:=hrN.out;by_cases hw0:nw=0
  ·subst hw0
   go_wp2_with fail;go_meet;exact⟨_,_,_,_,_,_,_,_,_,hO,OddR.refl _ _ _ _⟩
  obtain⟨p,hp,hpw⟩:∃p:Nat,Int.tmod (k:Int) (nw:Int)=(p:Int)∧p<nw:=⟨k % nw,by rw[Int.tmod_eq_emod_of_nonneg (by omega)];omega,Nat.mod_lt _ (by omega)⟩;have hpI:(p:Int)<(nw:Int):=by omega
  have hwI:(0:Int)<(nw:Int):=by omega
  have hwI2:((nw:Int)==0)=false:=by simpa using hw0
  obtain⟨wb,wo,wc',heq,hwc',-⟩:=hO.p.b.s2.some_ (by omega)
  cases heq;obtain⟨id,lv,m,lev,cs,ns,st,wt,ds,c0,c1,c2,c3,c4,c5,c6,c7,f0,hlv,hm,f2,f3,f4,f6,f7⟩:=SL.way hO.p.b.tw hO.p.b.s2 hpw;have hst:=fun i ct h u hu=>hO.p.store a4b hO.p.b.s2 hO.ow p i ct h u hu
  have z9:WD.frozen? ⟨wb,wo+p*8,none⟩=false:=(hst 0 .int rfl (.int .i64 0) (CT.ok_int (by decide))).2;have hX:=fun u hu=>(hst 0 .int rfl u hu).1
  clear hst;go_upto_region 21 with fail;first|with_reducible refine a0c 8 (by kernel_rfl) (by kernel_rfl) ?_|with_reducible refine a0d 8 (by kernel_rfl) (by kernel_rfl) ?_
  simp only[List.take_succ_cons,List.take_zero,List.drop_succ_cons,List.drop_zero];repeat (first|go_big_quiet_step (fail)|quiet_step (fail))
  refine wpQuiet_nil ?_;intro _ hw_;obtain⟨p,hw_⟩:=hw_;subst hw_;go_wp2_with fail;go_meet;exact⟨_,_,_,_,_,_,_,_,_,⟨(hX _ (CT.ok_int (by first|exact a0j _|exact a0m _|exact⟨by omega,by omega⟩))).up (Go.below_growBy _ _),hO.oe,hO.of,hO.ow⟩,OddR.refl _ _ _ _⟩
theorem b7l:a0q 6:=by
 unfold a0q;intro U w ev fv wv pv ne nf nw l hI q0 q1 q2 fq0 fq1 fq2 hcase;have hnf:=hI.nf;have hne:=hI.ne;have hnw:=hI.nw;have hnp:=hI.np;go_enter func31,ntmps31;go_upto_region 1 with fail;refine a0g (fun W1 hW1=> ?_);have h1:=(((OY.init (TW.none w)).box #[ev,fv,wv,pv] 37).box (qC q0 q1 q2) 23).box #[.slice none 0 0,.slice none 0 0,.slice none 0 0,.slice none 0 0] 37;obtain⟨ea,ec,rfl,hec⟩:=hI.e.form;obtain⟨fa,fc,rfl,hfc⟩:=hI.f.form;obtain⟨wa,wc,rfl,hwc⟩:=hI.w.form;obtain⟨pa,pc,rfl,hpc⟩:=hI.p.form;obtain⟨BM,hBM⟩:∃b,w.heap.size=b:=⟨_,rfl⟩;simp only[World.size_alloc] at h1;rw[←hW1,hBM] at h1;rw[hBM];obtain⟨BQ,hBQ⟩:∃b,BM+1=b:=⟨_,rfl⟩;obtain⟨BR,hBR⟩:∃b,BM+1+1=b:=⟨_,rfl⟩;rw[hBR,hBQ] at h1;rw[hBR,hBQ];have hI1:=hI.up h1.bel;obtain⟨m0,m1,m2,m3⟩:=a0l h1.b2;clear hW1;go_upto_region 2 with (first
  |(go_at_call 76;(with_reducible refine (a1j U W1 _ _ _ _ ne nf nw l hI1).mono ?_);rintro e WC⟨SC,ev1,fv1,wv1,pv1,rfl,hR,hev⟩;obtain⟨ea1,ec1,rfl,hec1⟩:=hR.e.form;obtain⟨fa1,fc1,rfl,hfc1⟩:=hR.f.form;obtain⟨wa1,wc1,rfl,hwc1⟩:=hR.w.form;obtain⟨pa1,pc1,rfl,hpc1⟩:=(a0b a2l hR.row (by omega)).form)
  |fail)
 have hSn:∀b,SC b→w.heap.size≤b:=fun b hb=>(hev.new b hb).elim (fun h=>h.elim) (fun h=>Nat.le_trans h1.size h)
 have hPC:OP noB w _ WC _ _ _ l:=⟨((((h1.evn hev).add (a0z hR.w)).add (a0z hR.f)).add (a0z hR.e)),a1v hR.row h1.size,fun g hg hs=>hs.elim (fun h=>h.elim) (fun h=>hR.off g hg h),by simp⟩;refine a0g (fun WD hWD=> ?_);have hPD:=hPC.box #[.slice ea1 ne ec1,.slice fa1 nf fc1,.slice wa1 nw wc1,.slice pa1 l.length pc1] 37 (by decide);obtain⟨BO,hBO⟩:∃b,WC.heap.size=b:=⟨_,rfl⟩;rw[←hWD,hBO] at hPD;rw[hBO];have hO:OO w BO BR BQ BM q0 q1 q2 _ _ WD _ _ _ _ ne nf nw l:=⟨hPD,a0y hR.e hSn,a0y hR.f hSn,a0y hR.w hSn⟩;clear hPD hPC hR hev hSn hWD hBO h1 hI1 m0 m1 m2 m3;obtain⟨S9,hS9⟩:∃S:BS,(fun b=>False∨SC b)=S:=⟨_,rfl⟩;rw[hS9] at hO;clear hS9 hI;obtain⟨n,hn,hn60⟩:∃n:Nat,q1 % 60=(n:Int)∧n<60:=⟨(q1 % 60).toNat,by omega,by omega⟩;obtain⟨k,hk,hk64⟩:∃n:Nat,q2 % 64=(n:Int)∧n<64:=⟨(q2 % 64).toNat,by omega,by omega⟩;obtain⟨r,hr,hr17⟩:∃n:Nat,q0 % 17=(n:Int)∧n<17:=⟨(q0 % 17).toNat,by omega,by omega⟩;have hrN:=Lib.hid (show r=6 by omega);clear hcase;have hm1:=a0p q1 60 WD fq1 (by decide) (by decide);have hm2:=a0p q2 64 WD fq2 (by decide) (by decide);have hm3:=a0p q0 17 WD fq0 (by decide) (by decide);rw[hn] at hm1;rw[hk] at hm2;rw[hr] at hm3;obtain⟨i0,i1,i2⟩:WD.cell? ⟨BQ,0,none⟩=some (.int .i64 q0)∧WD.cell? ⟨BQ,1,none⟩=some (.int .i64 q1)∧WD.cell? ⟨BQ,2,none⟩=some (.int .i64 q2):=⟨hO.p.b.b2.cell 0,hO.p.b.b2.cell 1,hO.p.b.b2.cell 2⟩;go_upto_block 0 with (first
  |(go_at_call 77;(with_reducible refine hm1.mono ?_);rintro e W'⟨rfl,rfl⟩)
  |(go_at_call 77;(with_reducible refine hm2.mono ?_);rintro e W'⟨rfl,rfl⟩)
  |(go_at_call 77;(with_reducible refine hm3.mono ?_);rintro e W'⟨rfl,rfl⟩)
  |fail)
 clear hm1 hm2 hm3 hr hn hk hBM hBQ hBR;generalize hM0: #[Value.slice ea ne ec,.slice fa nf fc,.slice wa nw wc,.slice pa l.length pc]=M0 at hO;go_cut [] (fun wx=>∃S ev' fv' wv' pv' ne' nf' nw' l',OO w BO BR BQ BM q0 q1 q2 M0 S wx ev' fv' wv' pv' ne' nf' nw' l'∧OddR ne nf nw l ne' nf' nw' l')
 case rest =>
  obtain⟨S',ev',fv',wv',pv',ne',nf',nw',l',hO',hR⟩:=hcut;obtain⟨e1,c1,rfl,-⟩:=hO'.p.b.s0.form;obtain⟨e2,c2,rfl,-⟩:=hO'.p.b.s1.form;obtain⟨e3,c3,rfl,-⟩:=hO'.p.b.s2.form;obtain⟨e4,c4,rfl,-⟩:=(a0b a2l hO'.p.row (by have:=hR.p;omega)).form;obtain⟨b0,b1,b2,b3⟩:=a0l hO'.p.b.b0;obtain⟨r0,r1,r2,r3⟩:=a0l hO'.p.b.b1;have z0:=hO'.p.b.b1.frozen 0;have z1:=hO'.p.b.b1.frozen 1;have z2:=hO'.p.b.b1.frozen 2;have z3:=hO'.p.b.b1.frozen 3;have hX:=((((hO'.p.tail.put (i:=0) (v:= .slice e1 ne' c1) rfl rfl).put (i:=1) (v:= .slice e2 nf' c2) rfl rfl).put (i:=2) (v:= .slice e3 nw' c3) rfl rfl).put (i:=3) (v:= .slice e4 l'.length c4) (c':= #[.slice e1 ne' c1,.slice e2 nf' c2,.slice e3 nw' c3,.slice e4 l'.length c4]) rfl rfl);go_wp2_with fail;exact bodyPost_ret (results_cell_row (by rfl) _ _ BR 37 _ (0,0) _ (by rfl) hX.b.b0 underlying37 (by rfl) (by kernel_rfl)) rfl ⟨S',_,_,_,_,ne',nf',nw',l',rfl,⟨hX.b.s0,hX.b.s1,hX.b.s2,hX.row,hX.off⟩,hR,hX.b.o.ev⟩
 case first =>
  obtain⟨b0,b1,b2,b3⟩:=a0l hO.p.b.b0;clear hM0;obtain rfl:=hrN.out;by_cases hw0:nw=0
  ·subst hw0
   go_wp2_with fail;go_meet;exact⟨_,_,_,_,_,_,_,_,_,hO,OddR.refl _ _ _ _⟩
  obtain⟨p,hp,hpw⟩:∃p:Nat,Int.tmod (k:Int) (nw:Int)=(p:Int)∧p<nw:=⟨k % nw,by rw[Int.tmod_eq_emod_of_nonneg (by omega)];omega,Nat.mod_lt _ (by omega)⟩;have hpI:(p:Int)<(nw:Int):=by omega
  have hwI:(0:Int)<(nw:Int):=by omega
  have hwI2:((nw:Int)==0)=false:=by simpa using hw0
  obtain⟨wb,wo,wc',heq,hwc',-⟩:=hO.p.b.s2.some_ (by omega)
  cases heq;obtain⟨id,lv,m,lev,cs,ns,st,wt,ds,c0,c1,c2,c3,c4,c5,c6,c7,f0,hlv,hm,f2,f3,f4,f6,f7⟩:=SL.way hO.p.b.tw hO.p.b.s2 hpw;have hst:=fun i ct h u hu=>hO.p.store a4b hO.p.b.s2 hO.ow p i ct h u hu
  have z9:WD.frozen? ⟨wb,wo+p*8+7,none⟩=false:=(hst 7 .int rfl (.int .i64 0) (CT.ok_int (by decide))).2;have hX:=fun u hu=>(hst 7 .int rfl u hu).1
  clear hst;go_upto_region 24 with fail;first|with_reducible refine a0c 9 (by kernel_rfl) (by kernel_rfl) ?_|with_reducible refine a0d 9 (by kernel_rfl) (by kernel_rfl) ?_
  simp only[List.take_succ_cons,List.take_zero,List.drop_succ_cons,List.drop_zero];repeat (first|go_big_quiet_step (fail)|quiet_step (fail))
  refine wpQuiet_nil ?_;intro _ hw_;obtain⟨p,hw_⟩:=hw_;subst hw_;go_wp2_with fail;go_meet;exact⟨_,_,_,_,_,_,_,_,_,⟨(hX _ (CT.ok_int (by first|exact a0j _|exact a0m _|exact⟨by omega,by omega⟩))).up (Go.below_growBy _ _),hO.oe,hO.of,hO.ow⟩,OddR.refl _ _ _ _⟩
end
end Go.Proofs.YtfocdbjceedagaaGreatDoor
