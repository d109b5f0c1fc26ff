/-
  Parts.
-/
import Derived.Test.YtfocdbjceedagaaGreatDoorXbi
set_option linter.unusedVariables false
set_option linter.unusedSimpArgs false
set_option maxHeartbeats 8000000
set_option maxRecDepth 100000
namespace Go.Proofs.YtfocdbjceedagaaGreatDoor
open Tryz
section
open Go.RowKit Go.Shelf
attribute [local go_sem] Oper.semAt_some
attribute [local go_sem ↓] Go.wp_at_zero Go.wp_at_succ
section
variable {α:Type}{E:El α}{P:Program}{st:TypeId}{w:World}{l:List α}
theorem El.pushO (hE:E.Ok)(hI:E.In P st){ops:Array Oper}{rest:List Oper}{o:Oper}{a:Act}{Q:Exit→Act→World→Prop}(hgd:o.guard=none)(sO xO:Operand)(ho:o.op= .call { callee:= .builtin .append,args:= #[sO,xO],argTypes:= #[st,st] })
 {base:Nat} {v:Value} (hs:a.eval sO=v) (hrow:w.ownsRow base E.t E.s v l.length (l.flatMap E.enc)) (x:α) {H:Nat} (hx:a.eval xO= .slice (some ⟨H,0,none⟩) 1 1) (hH:w.heap.size=H) (hbase:base≤w.heap.size) (hl:l.length≤100000)
 (h:∀v' w',w'.ownsRow base E.t E.s v' (l++[x]).length ((l++[x]).flatMap E.enc)→(∀g,v'.ownBlock=some g→v.ownBlock=some g∨w.heap.size≤g)→w.grownBy w' v.ownBlock→Below base w w'→wpList P ops Q rest (a.put o.dst v') w') :
 wpList P ops Q (o::rest) a (w.alloc (.cells (E.enc x).toArray E.t)):=by
 subst hH;obtain⟨i,z,hi,hz,hsz,hby,hzs⟩:=hI.info;have hlen:=hE.len x;refine wpList_append_lies _ hgd sO xO st ho base E.t i z E.s i.bytes hI.under hi hz hsz rfl hzs hE.pos v l.length _ hs (hrow.alloc _) ⟨w.heap.size,0,none⟩ 1 1 (E.enc x) hx (by rw[hlen,Nat.one_mul]) (World.news_of_block (heap_alloc_new _ _)) (hE.one x) (by omega) (by unfold maxLen;omega) (Nat.le_trans (Nat.mul_le_mul (Nat.add_le_add_right hl 1) hby) (by decide)) (by simp;omega) _ rfl ?_;intro g cap w' hown hg hgo hlt;have hg1:w.grownBy w' v.ownBlock:=by
  have h0:=World.grownBy_alloc w (.cells (E.enc x).toArray E.t) none;refine⟨hg.os.trans h0.os,hg.tape.trans h0.tape,hg.output.trans h0.output,Nat.le_trans h0.size hg.size,fun k hk hne=> ?_⟩;exact (hg.block k (by simp;omega) hne).trans (h0.block k hk (by simp))
 refine h _ w' ?_ (fun g' e=> ?_) hg1 ⟨hg1.os,hg1.tape,hg1.output,hg1.size,fun k hk=>hg1.block k (by omega) (fun e=> ?_)⟩
 ·simpa [List.flatMap_append] using hown
 ·simp only[Value.ownBlock,Option.some.injEq] at e
  subst e;rcases hgo with h1|h1
  ·exact .inl h1
  ·right
   rw[h1];simp
 ·have:=(hrow.lt k e.symm).1
  omega
end
theorem DY.callG {n₀ D:Nat}{sv:Value}{xs:List Int}{S0 S:BS}{W0 W:World}{L:a8t}{T:SlL}(h:DY n₀ D sv xs S0 W0 S W L T)(m:Int)(hm1:1≤m)(hm2:m≤4611686018427387904) :
 Calls prog 73 #[.pointer (some ⟨D,0,none⟩),.int .i64 m] W fun e W'=>∃v,e= .returned (.int .i64 v)∧0≤v∧v<m∧DY n₀ D sv xs S0 W0 S W' L T∧W.grownBy W' (some D):=by
 refine (h.st.call m hm1 hm2).mono ?_;rintro e W'⟨v,rfl,h0,h1,h2,hg,h3⟩;exact⟨v,rfl,h0,h1,⟨h2,fun p hp=>by
  obtain⟨k1,k2,k3,k4⟩:=h.bx p hp;exact⟨k1.kept hg (fun e=>k3 (Option.some.inj e).symm),k2,k3,k4⟩,h.ne,fun q hq=>h3.sl (h.sl q hq)⟩,hg⟩
theorem DY.other {n₀ D:Nat}{sv:Value}{xs:List Int}{S0 S:BS}{W0 W W':World}{L:a8t}{T:SlL}{o:Option Nat}(h:DY n₀ D sv xs S0 W0 S W L T)(hg:W.grownBy W' o)(ho:∀g,o=some g→¬S g∧g≠D∧W0.heap.size≤g∧∀p∈L,p.1≠g):DY n₀ D sv xs S0 W0 S W' L T:=by
 have hsame:∀b,S b→W'.heap[b]? =W.heap[b]? :=fun b hb=>hg.block b (h.tw.lt hb) (fun e=>(ho b e.symm).1 hb)
 have hev:=h.st.ev.own hg (fun r e=>⟨(ho r e).1,(ho r e).2.2.1⟩);have hlt:=h.st.td.lt;have hlo:=h.st.lo;obtain⟨j,hj,hb⟩:=h.st.td.box;have hbel:Below n₀ W W':=Below.of_grown hg (by have:=h.st.td.le;omega) (fun q e=>by have:=(ho q e).2.2.1;omega);have hsh:Shp S W W':=fun b c e hb hc=>⟨c,(hsame b hb).trans hc,rfl⟩
 refine⟨⟨⟨hev.ok,⟨j,hj,hb.kept hg (fun e=>(ho D e).2.1 rfl)⟩,h.st.td.ints.below hbel,h.st.td.le,h.st.td.len,h.st.td.low,h.st.td.not⟩,hev,hlo⟩,fun p hp=> ?_,h.ne,fun q hq=>(h.sl q hq).mono (fun _ h=>h) hsh⟩;obtain⟨k1,k2,k3,k4⟩:=h.bx p hp;exact⟨k1.kept hg (fun e=>(ho p.1 e).2.2.2 p hp rfl),k2,k3,k4⟩
structure DP (n₀ D:Nat)(sv:Value)(xs:List Int)(S0:BS)(W0:World)(S:BS)(W:World)(L:a8t)(T:SlL)(ov:Value)(l:List Pc):Prop where
 d:DY n₀ D sv xs S0 W0 S W L T
 row:W.ownsRow W0.heap.size 66 7 ov l.length (l.flatMap plE.enc)
 off:∀g,ov.ownBlock=some g→¬S g∧g≠D∧∀p∈L,p.1≠g
section
variable {n₀ D:Nat}{sv:Value}{xs:List Int}{S0 S S':BS}{W0 W W':World}{L:a8t}{T:SlL}{B i:Nat}{c c':Array Value}{t:TypeId}{ov v:Value}{l:List Pc}{p:Nat×Array Value×TypeId}
theorem DP.call (h:DP n₀ D sv xs S0 W0 S W L T ov l)(m:Int)(hm1:1≤m)(hm2:m≤4611686018427387904) :
 Calls prog 73 #[.pointer (some ⟨D,0,none⟩),.int .i64 m] W fun e W'=>∃v,e= .returned (.int .i64 v)∧0≤v∧v<m∧DP n₀ D sv xs S0 W0 S W' L T ov l:=by
 refine (h.d.callG m hm1 hm2).mono ?_;rintro e W'⟨v,rfl,h0,h1,h2,hg⟩;refine⟨v,rfl,h0,h1,h2,h.row.kept hg ?_,h.off⟩
 cases hp:ov.ownBlock with
 |none=>exact .inl rfl
 |some g=>exact .inr (fun e=>(h.off g hp).2.1 (Option.some.inj e))
theorem DP.up (h:DP n₀ D sv xs S0 W0 S W L T ov l)(hb:Below W.heap.size W W'):DP n₀ D sv xs S0 W0 S W' L T ov l:=⟨h.d.up hb,a1l h.row hb,h.off⟩
theorem DP.box (h:DP n₀ D sv xs S0 W0 S W L T ov l)(c:Array Value)(t:TypeId):DP n₀ D sv xs S0 W0 S (W.alloc (.cells c t)) ((W.heap.size,c,t)::L) T ov l :=
 ⟨h.d.box c t,h.row.alloc _,fun g hg=>by
  obtain⟨h1,h2,h3⟩:=h.off g hg;refine⟨h1,h2,fun p hp=> ?_⟩;rcases List.mem_cons.1 hp with rfl|hp
  ·have:=(h.row.lt g hg).2
   intro e;simp only at e;omega
  ·exact h3 p hp⟩
theorem DP.put (h:DP n₀ D sv xs S0 W0 S W ((B,c,t)::L) T ov l)(hW:W'=W.setCell ⟨B,i,none⟩ v)(hc:c.setIfInBounds i v=c'):DP n₀ D sv xs S0 W0 S W' ((B,c',t)::L) T ov l:=by
 refine⟨h.d.put hW hc,?_,fun g hg=> ?_⟩
 ·rw[hW]
  refine h.row.kept (a1g W B i v) ?_
  cases hp:ov.ownBlock with
  |none=>exact .inl rfl
  |some g=>exact .inr (fun e=>(h.off g hp).2.2 _ (List.mem_cons_self ..) (Option.some.inj e).symm)
 ·obtain⟨h1,h2,h3⟩:=h.off g hg
  refine⟨h1,h2,fun p hp=> ?_⟩;rcases List.mem_cons.1 hp with rfl|hp
  ·exact h3 (B,c,t) (List.mem_cons_self ..)
  ·exact h3 p (List.mem_cons_of_mem _ hp)
theorem DP.tail (h:DP n₀ D sv xs S0 W0 S W (p::L) T ov l):DP n₀ D sv xs S0 W0 S W L T ov l:=⟨h.d.tail,h.row,fun g hg=>⟨(h.off g hg).1,(h.off g hg).2.1,fun p hp=>(h.off g hg).2.2 p (List.mem_cons_of_mem _ hp)⟩⟩
theorem DP.more {l':List Pc}(h:DP n₀ D sv xs S0 W0 S W L T ov l)(hr:W'.ownsRow W0.heap.size 66 7 v l'.length (l'.flatMap plE.enc))(hg:W.grownBy W' ov.ownBlock)(hn:∀g,v.ownBlock=some g→ov.ownBlock=some g∨W.heap.size≤g):DP n₀ D sv xs S0 W0 S W' L T v l':=by
 refine⟨h.d.other hg (fun g e=>⟨(h.off g e).1,(h.off g e).2.1,(h.row.lt g e).1,(h.off g e).2.2⟩),hr,fun g e=> ?_⟩;rcases hn g e with h1|h1
 ·exact h.off g h1
 ·exact⟨fun hs=>by have:=h.d.tw.lt hs;omega,fun e2=>by have:=h.d.td.lt;omega,fun p hp e2=>by have:=(h.d.bx p hp).1.lt;omega⟩
end
structure PlsOk (l:List Pc):Prop where
 id:∀(k:Nat) p,l[k]? =some p→p.id=61+(k:Int)
 ok:∀p∈l,PcOk p
 cl:∀p∈l,p.cls.size≤1000
theorem PlsOk.nil:PlsOk []:=⟨fun k p h=>by simp at h,fun p h=>by simp at h,fun p h=>by simp at h⟩
theorem PlsOk.push {l:List Pc}{p:Pc}(h:PlsOk l)(hp:PcOk p)(hc:p.cls.size≤1000)(hi:p.id=61+(l.length:Int)):PlsOk (l++[p]):=by
 refine⟨fun k q hq=> ?_,fun q hq=> ?_,fun q hq=> ?_⟩
 ·by_cases hk:k<l.length
  ·rw[List.getElem?_append_left hk] at hq
   exact h.id k q hq
  ·rw[List.getElem?_append_right (by omega)] at hq
   have hk0:k=l.length:=by
    have:=(List.getElem?_eq_some_iff.1 hq).1;simp at this;omega
   subst hk0;simp at hq;subst hq;exact hi
 ·rcases List.mem_append.1 hq with h1|h1
  ·exact h.ok q h1
  ·rw[List.mem_singleton.1 h1]
   exact hp
 ·rcases List.mem_append.1 hq with h1|h1
  ·exact h.cl q h1
  ·rw[List.mem_singleton.1 h1]
   exact hc
def PlV (n₀ D:Nat)(sv:Value)(xs:List Int)(S:BS)(w:World)(M B2:Nat)(ev fv wv pv:Value)(ne nf:Nat)(ov kk:Value)(wr:World):Prop :=
 ∃(k:Nat) (S':BS) (l:List Pc),k≤M∧kk= .int .i64 (k:Nat)∧l.length≤k∧PlsOk l∧DP n₀ D sv xs S w S' wr [(B2,b4z ev fv wv pv,37)] [(206,ev,ne),(140,fv,nf)] ov l
theorem DP.pd {n₀ D:Nat}{sv:Value}{xs:List Int}{S0 S:BS}{W0 W W':World}{L:a8t}{T:SlL}{B:Nat}{id x y wt d:Int}{cs ns:ByteArray}{t:TypeId}{ov:Value}{l:List Pc}(h:DP n₀ D sv xs S0 W0 S W ((B,d0l id x y cs ns wt 0,t)::L) T ov l)(hW:W'=W.setCell ⟨B,6,none⟩ (.int .i64 d)):DP n₀ D sv xs S0 W0 S W' ((B,d0l id x y cs ns wt d,t)::L) T ov l:=h.put hW rfl
theorem b5b (n₀:Nat)(S:BS)(w:World)(hT:TW S w)(hlow:∀b,S b→n₀≤b)(hn0:n₀≤w.heap.size)(sv:Value)(xs:List Int)(hI:Intz n₀ w sv xs)
 (ev fv:Value) (ne nf:Nat) (hse:SL S w 206 ev ne) (hne:ne≤100) (hsf:SL S w 140 fv nf) (hnf:nf≤200) (wa pa:Option Addr) (wn wc pn pc:Nat) :
 Calls prog 75 #[.agg (b4z ev fv (.slice wa wn wc) (.slice pa pn pc)),sv] w fun e w'=>∃S' v l,e= .returned v∧l.length≤6∧PlsOk l∧w'.ownsRow w.heap.size 66 7 v l.length (l.flatMap plE.enc)∧(∀g,v.ownBlock=some g→¬S' g)∧Ev noB S w S' w':=by
 obtain⟨ea,ec,rfl,-⟩:=hse.form;obtain⟨fa,fc,rfl,-⟩:=hsf.form;obtain⟨sa,sc,rfl⟩:∃a c,sv= .slice a xs.length c:=by
  obtain⟨⟨a,c,e,-⟩,-⟩:=hI;exact⟨a,c,e⟩
 have hb1:Below w.heap.size w (w.alloc (.cells (b4z (.slice ea ne ec) (.slice fa nf fc) (.slice wa wn wc) (.slice pa pn pc)) 37)):=zC;have htd:=TD.new (Ev.of_below (X:=noB) hT hb1).ok hlow (Nat.le_trans hn0 hb1.size) (hI.below (hb1.mono hn0));have hb2:Below w.heap.size w ((w.alloc (.cells (b4z (.slice ea ne ec) (.slice fa nf fc) (.slice wa wn wc) (.slice pa pn pc)) 37)).alloc (.cells #[.slice sa xs.length sc,.int .i64 0] 137)):=zC;have hB:=(Blk.new w (b4z (.slice ea ne ec) (.slice fa nf fc) (.slice wa wn wc) (.slice pa pn pc)) 37).alloc (.cells #[.slice sa xs.length sc,.int .i64 0] 137);simp only[World.size_alloc] at htd;go_enter func75,ntmps75;go_upto_region 3 with fail;refine a0g (fun W1 hW1=> ?_);rw[←hW1] at htd hb2 hB;have hnS:¬S w.heap.size:=fun h=>Nat.lt_irrefl _ (hT.lt h)
 obtain⟨B2,hB2⟩:∃b,w.heap.size=b:=⟨_,rfl⟩;obtain⟨D,hD⟩:∃b,w.heap.size+1=b:=⟨_,rfl⟩;obtain⟨sv,hsv⟩:∃v,Value.slice sa xs.length sc=v:=⟨_,rfl⟩;have hDw:w.heap.size≤D:=by omega
 have hd1:DY n₀ D sv xs S w S W1 [(B2,b4z (.slice ea ne ec) (.slice fa nf fc) (.slice wa wn wc) (.slice pa pn pc),37)] [(206,.slice ea ne ec,ne),(140,.slice fa nf fc,nf)]:=by
  have hE:=Ev.of_below (X:=a9j D) hT hb2;rw[hD,hsv] at htd;refine⟨⟨htd,hE,hn0⟩,fun p hp=> ?_,by simp,fun q hq=> ?_⟩
  ·simp only[List.mem_cons,List.not_mem_nil,or_false] at hp
   subst hp;exact⟨by rw[←hB2];exact hB,by rw[←hB2];exact hnS,by show B2≠D;omega,by show w.heap.size≤B2;omega⟩
  ·simp only[List.mem_cons,List.not_mem_nil,or_false] at hq
   rcases hq with rfl|rfl
   ·exact hE.sl hse
   ·exact hE.sl hsf
 rw[hD,hB2,hsv];clear htd hb1 hb2 hB hW1 hD hsv hI hnS hB2 hlow hn0;go_wp2_with (first
  |(go_at_call 73;(with_reducible refine (hd1.call 7 (by omega) (by omega)).mono ?_);rintro e W2⟨many,rfl,m0,m1,hd2⟩)
  |fail)
 obtain⟨M,rfl⟩:∃M:Nat,many=M:=⟨many.toNat,by omega⟩;have hM6:M≤6:=by omega
 obtain⟨ev,hev⟩:∃v,Value.slice ea ne ec=v:=⟨_,rfl⟩;obtain⟨fv,hfv⟩:∃v,Value.slice fa nf fc=v:=⟨_,rfl⟩;obtain⟨wv,hwv⟩:∃v,Value.slice wa wn wc=v:=⟨_,rfl⟩;obtain⟨pv,hpv⟩:∃v,Value.slice pa pn pc=v:=⟨_,rfl⟩;rw[hev,hfv,hwv,hpv] at hd2;rw[hev,hfv,hwv,hpv];have hFD:∀(S:BS) (W:World),TW S W→SL S W 140 fv nf→∀id,Calls prog 135 #[.agg (b4z ev fv wv pv),.int .i64 id] W fun e w'=>(∃x,e= .returned (.int .i64 x)∧a0k x)∧Below W.heap.size W w':=fun S W h1 h2 id=>by
  rw[←hev,←hfv,←hwv,←hpv];rw[←hfv] at h2;exact a9r S W h1 _ _ _ _ _ _ _ _ _ _ _ nf h2 hnf id
 clear hev hfv hwv hpv;go_loopw [6,8] (fun ov kk wr=>PlV n₀ D sv xs S w M B2 ev fv wv pv ne nf ov kk wr) (fun _ kk _=>M-(intOf kk).toNat)
 case atStart=>exact⟨0,S,[],by omega,rfl,by simp,PlsOk.nil,hd2,⟨by simp,.inl ⟨rfl,by simp⟩⟩,fun g e=>by cases e⟩
 case round =>
  clear hd1 hd2;obtain⟨k,S',l,hk,rfl,hn,hok,hd⟩:=hrel;by_cases hlt:k<M
  ·have hltI:(k:Int)<(M:Int):=by omega
   obtain⟨oa,oc,rfl,-⟩:=(a0b a2l hd.row (by omega)).form;go_upto_if 28 with (first
    |(go_at_call 73;(with_reducible refine (hd.call 10 (by omega) (by omega)).mono ?_);rintro e W2⟨s,rfl,s0,s1,hd2⟩)
    |(go_at_call 73;(with_reducible refine (hd2.call 2 (by omega) (by omega)).mono ?_);rintro e W3⟨q,rfl,q0,q1,hd3⟩)
    |fail)
   by_cases hq:q=1
   ·subst hq
    clear hd hd2;go_upto_region 11 with (first
     |(go_at_call 73;(with_reducible refine (hd3.call 3 (by omega) (by omega)).mono ?_);rintro e W4⟨a,rfl,a0,a1,hd4⟩)
     |(go_at_call 73;(with_reducible refine (hd4.call 2 (by omega) (by omega)).mono ?_);rintro e W5⟨b,rfl,b0,b1,hd5⟩)
     |(go_at_call 73;(with_reducible refine (hd5.call 51 (by omega) (by omega)).mono ?_);rintro e W6⟨c,rfl,c0,c1,hd6⟩)
     |(go_at_call 73;(with_reducible refine (hd6.call 60 (by omega) (by omega)).mono ?_);rintro e W7⟨t,rfl,t0,t1,hd7⟩)
     |fail)
    have hn6:l.length≤6:=by omega
    have f0:a0k (61+(l.length:Int)):=⟨by omega,by omega⟩;have f5:a0k (1+t):=⟨by omega,by omega⟩;refine a0g (fun W8 hW8=> ?_);obtain⟨X,Y,fX,fY,hd8⟩:∃X Y,a0k X∧a0k Y∧DP n₀ D sv xs S w S' W8 [(W7.heap.size,d0l (61+l.length) X Y ⟨#[]⟩ ⟨#[]⟩ (1+t) 0,66),(B2,b4z ev fv wv pv,37)] [(206,ev,ne),(140,fv,nf)] (.slice oa l.length oc) l:=by
     rw[hW8];refine⟨_,_,?_,?_,hd7.box _ _⟩
     ·exact⟨by omega,by omega⟩
     ·exact⟨by omega,by omega⟩
    obtain⟨BP,hBP⟩:∃b,W7.heap.size=b:=⟨_,rfl⟩;rw[hBP] at hd8;rw[hBP];clear hW8 hBP hd3 hd4 hd5 hd6 hd7;have st1:Strs #[.string ⟨#[116,114,101,101]⟩,.string ⟨#[116,114,101,101]⟩,.string ⟨#[115,104,111,112]⟩]:=a5z [⟨#[116,114,101,101]⟩,⟨#[116,114,101,101]⟩,⟨#[115,104,111,112]⟩] (by decide);go_upto_region 12 with (first
     |(go_at_call 73;(with_reducible refine ((hd8.box _ _).call 3 (by omega) (by omega)).mono ?_);rintro e Wb⟨q,rfl,q0,q1,hb⟩;obtain⟨q,rfl⟩:=Int.eq_ofNat_of_zero_le q0;obtain⟨s1,cs1,hs1⟩:=st1.at_ hb.d.b0 (q:=q) (by simp;omega);have hdB:=hb.tail;obtain⟨z0,z1,z2,z3,z4,z5,z6⟩:=a6t hdB.d.b0;have zf:=hdB.d.b0.frozen 3)
     |fail)
    refine a0g (fun WC hWC=> ?_);have hdC:=hdB.put hWC (c':=d0l (61+l.length) X Y s1 ⟨#[]⟩ (1+t) 0) rfl;clear hd8 hdB hb hWC z0 z1 z2 z3 z4 z5 z6 zf cs1 st1;have st2:Strs #[.string ⟨#[]⟩,.string ⟨#[]⟩,.string ⟨#[71,97,116,101]⟩,.string ⟨#[79,97,107]⟩,.string ⟨#[84,104,101,32,87,101,108,108]⟩]:=a5z [⟨#[]⟩,⟨#[]⟩,⟨#[71,97,116,101]⟩,⟨#[79,97,107]⟩,⟨#[84,104,101,32,87,101,108,108]⟩] (by decide);go_upto_region 13 with (first
     |(go_at_call 73;(with_reducible refine ((hdC.box _ _).call 5 (by omega) (by omega)).mono ?_);rintro e Wd⟨q',rfl,q'0,q'1,hd⟩;obtain⟨q',rfl⟩:=Int.eq_ofNat_of_zero_le q'0;obtain⟨s2,cs2,hs2⟩:=st2.at_ hd.d.b0 (q:=q') (by simp;omega);have hdD:=hd.tail;obtain⟨z0,z1,z2,z3,z4,z5,z6⟩:=a6t hdD.d.b0;have zf:=hdD.d.b0.frozen 4)
     |fail)
    refine a0g (fun WE hWE=> ?_);have hdE:=hdD.put hWE (c':=d0l (61+l.length) X Y s1 s2 (1+t) 0) rfl;clear hdC hdD hd hWE z0 z1 z2 z3 z4 z5 z6 zf cs2 st2;obtain⟨z0,z1,z2,z3,z4,z5,z6⟩:=a6t hdE.d.b0;obtain⟨m0,m1,m2,m3⟩:=a0l hdE.d.b1;go_upto_region 14 with (first
     |(go_at_call 134;(with_reducible refine (c6b S' WE hdE.d.tw ev ne hdE.d.s0 hne X Y fX fY).mono ?_);rintro e WA⟨⟨x,bo,rfl⟩,hbA⟩)
     |fail)
    have hdA:=hdE.up hbA;clear hdE hbA z0 z1 z2 z3 z4 z5 z6 m0 m1 m2 m3;obtain⟨m0,m1,m2,m3⟩:=a0l hdA.d.b1;go_upto_region 15 with (first
     |(go_at_call 135;(with_reducible refine (hFD S' WA hdA.d.tw hdA.d.s1 x).mono ?_);rintro e WF⟨⟨d,rfl,fd⟩,hbF⟩;have hdF:=hdA.up hbF;obtain⟨z0,z1,z2,z3,z4,z5,z6⟩:=a6t hdF.d.b0;have zf:=hdF.d.b0.frozen 6)
     |fail)
    refine a0g (fun WG hWG=> ?_);have hdG:=hdF.pd hWG;clear hdA hbF hdF hWG m0 m1 m2 m3 z0 z1 z2 z3 z4 z5 z6 zf;obtain⟨z0,z1,z2,z3,z4,z5,z6⟩:=a6t hdG.d.b0
    cases bo
    ·go_wp2_with fail
     go_roundw
     case rel=>exact⟨k+1,S',l,by omega,by go_num,by omega,hok,hdG.tail⟩
     case measure=>simp[intOf];omega
    ·by_cases hd0:0<d
     ·go_wp2_with (first
       |(at_builtin;refine El.pushO a2l d2f (by rfl) _ _ (by rfl) (by rfl) hdG.row ⟨61+(l.length:Int),X,Y,s1,s2,1+t,d⟩ (by rfl) rfl (hdG.d.st.ev.size) (by omega) ?_;intro v9 w9 hr9 hn9 hg9 hb9)
       |fail)
      go_roundw
      case rel=>exact⟨k+1,S',l++[⟨61+(l.length:Int),X,Y,s1,s2,1+t,d⟩],by omega,by go_num,by rw[List.length_append];simp;omega,hok.push ⟨f0,fX,fY,f5,show s2.size≤1000 from by omega⟩ (show s1.size≤1000 from by omega) rfl,(hdG.more hr9 hg9 hn9).tail⟩
      case measure=>simp[intOf];omega
     ·go_wp2_with fail
      go_roundw
      case rel=>exact⟨k+1,S',l,by omega,by go_num,by omega,hok,hdG.tail⟩
      case measure=>simp[intOf];omega
   ·have hqb:(q==1)=false:=by simpa using hq
    clear hd hd2;go_upto_region 11 with (first
     |(go_at_call 73;(with_reducible refine (hd3.call 3 (by omega) (by omega)).mono ?_);rintro e W4⟨a,rfl,a0,a1,hd4⟩)
     |(go_at_call 73;(with_reducible refine (hd4.call 2 (by omega) (by omega)).mono ?_);rintro e W5⟨b,rfl,b0,b1,hd5⟩)
     |(go_at_call 73;(with_reducible refine (hd5.call 51 (by omega) (by omega)).mono ?_);rintro e W6⟨c,rfl,c0,c1,hd6⟩)
     |(go_at_call 73;(with_reducible refine (hd6.call 60 (by omega) (by omega)).mono ?_);rintro e W7⟨t,rfl,t0,t1,hd7⟩)
     |fail)
    have hn6:l.length≤6:=by omega
    have f0:a0k (61+(l.length:Int)):=⟨by omega,by omega⟩;have f5:a0k (1+t):=⟨by omega,by omega⟩;refine a0g (fun W8 hW8=> ?_);obtain⟨X,Y,fX,fY,hd8⟩:∃X Y,a0k X∧a0k Y∧DP n₀ D sv xs S w S' W8 [(W7.heap.size,d0l (61+l.length) X Y ⟨#[]⟩ ⟨#[]⟩ (1+t) 0,66),(B2,b4z ev fv wv pv,37)] [(206,ev,ne),(140,fv,nf)] (.slice oa l.length oc) l:=by
     rw[hW8];refine⟨_,_,?_,?_,hd7.box _ _⟩
     ·exact⟨by omega,by omega⟩
     ·exact⟨by omega,by omega⟩
    obtain⟨BP,hBP⟩:∃b,W7.heap.size=b:=⟨_,rfl⟩;rw[hBP] at hd8;rw[hBP];clear hW8 hBP hd3 hd4 hd5 hd6 hd7;have st1:Strs #[.string ⟨#[116,114,101,101]⟩,.string ⟨#[116,114,101,101]⟩,.string ⟨#[115,104,111,112]⟩]:=a5z [⟨#[116,114,101,101]⟩,⟨#[116,114,101,101]⟩,⟨#[115,104,111,112]⟩] (by decide);go_upto_region 12 with (first
     |(go_at_call 73;(with_reducible refine ((hd8.box _ _).call 3 (by omega) (by omega)).mono ?_);rintro e Wb⟨q,rfl,q0,q1,hb⟩;obtain⟨q,rfl⟩:=Int.eq_ofNat_of_zero_le q0;obtain⟨s1,cs1,hs1⟩:=st1.at_ hb.d.b0 (q:=q) (by simp;omega);have hdB:=hb.tail;obtain⟨z0,z1,z2,z3,z4,z5,z6⟩:=a6t hdB.d.b0;have zf:=hdB.d.b0.frozen 3)
     |fail)
    refine a0g (fun WC hWC=> ?_);have hdC:=hdB.put hWC (c':=d0l (61+l.length) X Y s1 ⟨#[]⟩ (1+t) 0) rfl;clear hd8 hdB hb hWC z0 z1 z2 z3 z4 z5 z6 zf cs1 st1;have st2:Strs #[.string ⟨#[]⟩,.string ⟨#[]⟩,.string ⟨#[71,97,116,101]⟩,.string ⟨#[79,97,107]⟩,.string ⟨#[84,104,101,32,87,101,108,108]⟩]:=a5z [⟨#[]⟩,⟨#[]⟩,⟨#[71,97,116,101]⟩,⟨#[79,97,107]⟩,⟨#[84,104,101,32,87,101,108,108]⟩] (by decide);go_upto_region 13 with (first
     |(go_at_call 73;(with_reducible refine ((hdC.box _ _).call 5 (by omega) (by omega)).mono ?_);rintro e Wd⟨q',rfl,q'0,q'1,hd⟩;obtain⟨q',rfl⟩:=Int.eq_ofNat_of_zero_le q'0;obtain⟨s2,cs2,hs2⟩:=st2.at_ hd.d.b0 (q:=q') (by simp;omega);have hdD:=hd.tail;obtain⟨z0,z1,z2,z3,z4,z5,z6⟩:=a6t hdD.d.b0;have zf:=hdD.d.b0.frozen 4)
     |fail)
    refine a0g (fun WE hWE=> ?_);have hdE:=hdD.put hWE (c':=d0l (61+l.length) X Y s1 s2 (1+t) 0) rfl;clear hdC hdD hd hWE z0 z1 z2 z3 z4 z5 z6 zf cs2 st2;obtain⟨z0,z1,z2,z3,z4,z5,z6⟩:=a6t hdE.d.b0;obtain⟨m0,m1,m2,m3⟩:=a0l hdE.d.b1;go_upto_region 14 with (first
     |(go_at_call 134;(with_reducible refine (c6b S' WE hdE.d.tw ev ne hdE.d.s0 hne X Y fX fY).mono ?_);rintro e WA⟨⟨x,bo,rfl⟩,hbA⟩)
     |fail)
    have hdA:=hdE.up hbA;clear hdE hbA z0 z1 z2 z3 z4 z5 z6 m0 m1 m2 m3;obtain⟨m0,m1,m2,m3⟩:=a0l hdA.d.b1;go_upto_region 15 with (first
     |(go_at_call 135;(with_reducible refine (hFD S' WA hdA.d.tw hdA.d.s1 x).mono ?_);rintro e WF⟨⟨d,rfl,fd⟩,hbF⟩;have hdF:=hdA.up hbF;obtain⟨z0,z1,z2,z3,z4,z5,z6⟩:=a6t hdF.d.b0;have zf:=hdF.d.b0.frozen 6)
     |fail)
    refine a0g (fun WG hWG=> ?_);have hdG:=hdF.pd hWG;clear hdA hbF hdF hWG m0 m1 m2 m3 z0 z1 z2 z3 z4 z5 z6 zf;obtain⟨z0,z1,z2,z3,z4,z5,z6⟩:=a6t hdG.d.b0
    cases bo
    ·go_wp2_with fail
     go_roundw
     case rel=>exact⟨k+1,S',l,by omega,by go_num,by omega,hok,hdG.tail⟩
     case measure=>simp[intOf];omega
    ·by_cases hd0:0<d
     ·go_wp2_with (first
       |(at_builtin;refine El.pushO a2l d2f (by rfl) _ _ (by rfl) (by rfl) hdG.row ⟨61+(l.length:Int),X,Y,s1,s2,1+t,d⟩ (by rfl) rfl (hdG.d.st.ev.size) (by omega) ?_;intro v9 w9 hr9 hn9 hg9 hb9)
       |fail)
      go_roundw
      case rel=>exact⟨k+1,S',l++[⟨61+(l.length:Int),X,Y,s1,s2,1+t,d⟩],by omega,by go_num,by rw[List.length_append];simp;omega,hok.push ⟨f0,fX,fY,f5,show s2.size≤1000 from by omega⟩ (show s1.size≤1000 from by omega) rfl,(hdG.more hr9 hg9 hn9).tail⟩
      case measure=>simp[intOf];omega
     ·go_wp2_with fail
      go_roundw
      case rel=>exact⟨k+1,S',l,by omega,by go_num,by omega,hok,hdG.tail⟩
      case measure=>simp[intOf];omega
  ·have hge:¬(k:Int)<(M:Int):=by omega
   go_wp2_with fail;go_ret;exact⟨S',_,rfl,l,by omega,hok,hd.row,fun g e=>(hd.off g e).1,hd.d.fin (Ev.refl hT) hDw⟩
end
section
open Go Go.RowKit Go.Shelf
section
variable {α:Type}{E:El α}{P:Program}{st:TypeId}
end
theorem a6b {W:World}{base Z:Nat}{t:TypeId}{s:Nat}(h:Blk W Z #[] t)(hb:base≤Z):W.ownsRow base t s (.slice (some ⟨Z,0,none⟩) 0 0) 0 []:=⟨by simp,.inr ⟨Z,0,#[],rfl,hb,h,yR _,by unfold maxLen;omega,by simp,by simp⟩⟩
theorem Lst.drop {α:Type}{E:El α}{n₀:Nat}{W:World}{b off cap:Nat}{l:List α}(h:Lst E n₀ W (.slice (some ⟨b,off,none⟩) l.length cap) l)(k:Nat)(hk:k≤l.length):Lst E n₀ W (.slice (some ⟨b,off+k*E.s,none⟩) (l.length-k) (cap-k)) (l.drop k):=by
 obtain⟨a',cap',e,h1,h2,h3⟩:=h
 cases e;refine⟨_,_,by rw[List.length_drop],by rw[List.length_drop];omega,by rw[List.length_drop];omega,fun j hj=> ?_⟩;rw[List.length_drop] at hj;obtain⟨b',off',e2,hlt,hc⟩:=h3 (k+j) (by omega);simp only[Option.some.injEq,Addr.mk.injEq,and_true] at e2;obtain⟨rfl,rfl⟩:=e2;refine⟨b,off+k*E.s,rfl,hlt,fun i hi=> ?_⟩;rw[List.getElem_drop,←hc i hi];rw[Nat.add_mul,Nat.add_assoc off,Nat.add_assoc off]
end
end Go.Proofs.YtfocdbjceedagaaGreatDoor
