/-
  Parts.
-/
import Derived.Test.YtfocdbjceedagaaGreatDoorMap
set_option linter.unusedVariables false
set_option linter.unusedSimpArgs false
set_option maxHeartbeats 8000000
set_option maxRecDepth 100000
namespace Go.Proofs.YtfocdbjceedagaaGreatDoor
open Tryz
section
open Go.RowKit Go.Shelf
attribute [local go_sem] Oper.semAt_some
attribute [local go_sem ↓] Go.wp_at_zero Go.wp_at_succ
section
variable {α:Type}{E:El α}{P:Program}{st:TypeId}{w:World}{l:List α}
theorem El.pushO (hE:E.Ok)(hI:E.In P st){ops:Array Oper}{rest:List Oper}{o:Oper}{a:Act}{Q:Exit->Act->World->Prop}(hgd:o.guard=none)(sO xO:Operand)(ho:o.op= .call { callee:= .builtin .append,args:= #[sO,xO],argTypes:= #[st,st] })
 {base:Nat} {v:Value} (hs:a.eval sO=v) (hrow:w.ownsRow base E.t E.s v l.length (l.flatMap E.enc)) (x:α) {H:Nat} (hx:a.eval xO= .slice (some ⟨H,0,none⟩) 1 1) (hH:w.heap.size=H) (hbase:base<=w.heap.size) (hl:l.length<=100000)
 (h:∀v' w',w'.ownsRow base E.t E.s v' (l++[x]).length ((l++[x]).flatMap E.enc)->(∀g,v'.ownBlock=some g->v.ownBlock=some g\/w.heap.size<=g)->w.grownBy w' v.ownBlock->Below base w w'->wpList P ops Q rest (a.put o.dst v') w') :
 wpList P ops Q (o::rest) a (w.alloc (.cells (E.enc x).toArray E.t)):=by
 subst hH;obtain⟨i,z,hi,hz,hsz,hby,hzs⟩:=hI.info;have hlen:=hE.len x;refine wpList_append_lies _ hgd sO xO st ho base E.t i z E.s i.bytes hI.under hi hz hsz rfl hzs hE.pos v l.length _ hs (hrow.alloc _) ⟨w.heap.size,0,none⟩ 1 1 (E.enc x) hx (by rw[hlen,Nat.one_mul]) (World.news_of_block (heap_alloc_new _ _)) (hE.one x) oM oK (Nat.le_trans (Nat.mul_le_mul (Nat.add_le_add_right hl 1) hby) jM) uM _ rfl ?_;intro g cap w' hown hg hgo hlt;have hg1:w.grownBy w' v.ownBlock:=by
  exact yel
 refine h _ w' ?_ (λg' e=> ?_) hg1 ⟨hg1.os,hg1.tape,hg1.output,hg1.size,λk hk=>hg1.block k oM (λe=> ?_)⟩
 ·simpa[List.flatMap_append]using hown
 ·simp only[Value.ownBlock,Option.some.injEq]at e
  subst e;rcases hgo with h1|h1
  ·exact .inl h1
  ·right
   rw[h1];simp
 ·have:=(hrow.lt k e.symm).1
  omega
end
theorem DY.callG {n₀ D:Nat}{sv:Value}{xs:List Int}{S0 S:BS}{W0 W:World}{L:a9o}{T:SlL}(h:DY n₀ D sv xs S0 W0 S W L T)(m:Int)(hm1:1<=m)(hm2:m<=4611686018427387904) :
 Calls prog 73 #[.pointer (some ⟨D,0,none⟩),.int .i64 m] W λe W'=>∃v,e= .returned (.int .i64 v)/\0<=v/\v<m/\DY n₀ D sv xs S0 W0 S W' L T/\W.grownBy W' (some D):=by
 refine(h.st.call m hm1 hm2).mono ?_;rintro e W'⟨v,rfl,h0,h1,h2,hg,h3⟩;exact⟨v,rfl,h0,h1,⟨h2,λp hp=>by
  obtain⟨k1,k2,k3,k4⟩:=h.bx p hp;exact⟨k1.kept hg (λe=>k3 (Option.some.inj e).symm),k2,k3,k4⟩,h.ne,λq hq=>h3.sl (h.sl q hq)⟩,hg⟩
theorem DY.other {n₀ D:Nat}{sv:Value}{xs:List Int}{S0 S:BS}{W0 W W':World}{L:a9o}{T:SlL}{o:Option Nat}(h:DY n₀ D sv xs S0 W0 S W L T)(hg:W.grownBy W' o)(ho:∀g,o=some g->¬S g/\g≠D/\W0.heap.size<=g/\∀p∈L,p.1≠g):DY n₀ D sv xs S0 W0 S W' L T:=by
 have hsame:∀b,S b->W'.heap[b]? =W.heap[b]? :=λb hb=>hg.block b (h.tw.lt hb) (λe=>(ho b e.symm).1 hb)
 have hev:=h.st.ev.own hg (λr e=>⟨(ho r e).1,(ho r e).2.2.1⟩);have hlt:=h.st.td.lt;have hlo:=h.st.lo;obtain⟨j,hj,hb⟩:=h.st.td.box;have hbel:Below n₀ W W':=Below.of_grown hg (by have:=h.st.td.le;omega) (λq e=>by have:=(ho q e).2.2.1;omega);have hsh:Shp S W W':=λb c e hb hc=>⟨c,(hsame b hb).trans hc,rfl⟩
 refine⟨⟨⟨hev.ok,⟨j,hj,hb.kept hg (λe=>(ho D e).2.1 rfl)⟩,h.st.td.ints.below hbel,h.st.td.le,h.st.td.len,h.st.td.low,h.st.td.not⟩,hev,hlo⟩,λp hp=> ?_,h.ne,λq hq=>(h.sl q hq).mono (λ_ h=>h) hsh⟩;obtain⟨k1,k2,k3,k4⟩:=h.bx p hp;exact⟨k1.kept hg (λe=>(ho p.1 e).2.2.2 p hp rfl),k2,k3,k4⟩
structure DP (n₀ D:Nat)(sv:Value)(xs:List Int)(S0:BS)(W0:World)(S:BS)(W:World)(L:a9o)(T:SlL)(ov:Value)(l:List Pc):Prop where
 d:DY n₀ D sv xs S0 W0 S W L T
 row:W.ownsRow W0.heap.size 66 7 ov l.length (l.flatMap plE.enc)
 off:∀g,ov.ownBlock=some g->¬S g/\g≠D/\∀p∈L,p.1≠g
section
variable {n₀ D:Nat}{sv:Value}{xs:List Int}{S0 S S':BS}{W0 W W':World}{L:a9o}{T:SlL}{B i:Nat}{c c':Array Value}{t:TypeId}{ov v:Value}{l:List Pc}{p:Nat×Array Value×TypeId}
theorem DP.call (h:DP n₀ D sv xs S0 W0 S W L T ov l)(m:Int)(hm1:1<=m)(hm2:m<=4611686018427387904) :
 Calls prog 73 #[.pointer (some ⟨D,0,none⟩),.int .i64 m] W λe W'=>∃v,e= .returned (.int .i64 v)/\0<=v/\v<m/\DP n₀ D sv xs S0 W0 S W' L T ov l:=by
 refine(h.d.callG m hm1 hm2).mono ?_;rintro e W'⟨v,rfl,h0,h1,h2,hg⟩;refine⟨v,rfl,h0,h1,h2,h.row.kept hg ?_,h.off⟩
 cases hp:ov.ownBlock with
 |none=>exact .inl rfl
 |some g=>exact .inr (λe=>(h.off g hp).2.1 (Option.some.inj e))
theorem DP.up (h:DP n₀ D sv xs S0 W0 S W L T ov l)(hb:Below W.heap.size W W'):DP n₀ D sv xs S0 W0 S W' L T ov l:=⟨h.d.up hb,a1e h.row hb,h.off⟩
theorem DP.box (h:DP n₀ D sv xs S0 W0 S W L T ov l)(c:Array Value)(t:TypeId):DP n₀ D sv xs S0 W0 S (W.alloc (.cells c t)) ((W.heap.size,c,t)::L) T ov l :=
 ⟨h.d.box c t,h.row.alloc _,λg hg=>by
  obtain⟨h1,h2,h3⟩:=h.off g hg;refine⟨h1,h2,λp hp=> ?_⟩;rcases List.mem_cons.1 hp with rfl|hp
  ·have:=(h.row.lt g hg).2
   intro e;simp only at e;omega
  ·exact h3 p hp⟩
theorem DP.put (h:DP n₀ D sv xs S0 W0 S W ((B,c,t)::L) T ov l)(hW:W'=W.setCell ⟨B,i,none⟩ v)(hc:c.setIfInBounds i v=c'):DP n₀ D sv xs S0 W0 S W' ((B,c',t)::L) T ov l:=by
 refine⟨h.d.put hW hc,?_,λg hg=> ?_⟩
 ·rw[hW]
  refine h.row.kept (a0x W B i v) ?_
  cases hp:ov.ownBlock with
  |none=>exact .inl rfl
  |some g=>exact .inr (λe=>(h.off g hp).2.2 _ (List.mem_cons_self ..) (Option.some.inj e).symm)
 ·obtain⟨h1,h2,h3⟩:=h.off g hg
  refine⟨h1,h2,λp hp=> ?_⟩;rcases List.mem_cons.1 hp with rfl|hp
  ·exact h3 (B,c,t) (List.mem_cons_self ..)
  ·exact h3 p (List.mem_cons_of_mem _ hp)
theorem DP.tail (h:DP n₀ D sv xs S0 W0 S W (p::L) T ov l):DP n₀ D sv xs S0 W0 S W L T ov l:=⟨h.d.tail,h.row,λg hg=>⟨(h.off g hg).1,(h.off g hg).2.1,λp hp=>(h.off g hg).2.2 p (List.mem_cons_of_mem _ hp)⟩⟩
theorem DP.more {l':List Pc}(h:DP n₀ D sv xs S0 W0 S W L T ov l)(hr:W'.ownsRow W0.heap.size 66 7 v l'.length (l'.flatMap plE.enc))(hg:W.grownBy W' ov.ownBlock)(hn:∀g,v.ownBlock=some g->ov.ownBlock=some g\/W.heap.size<=g):DP n₀ D sv xs S0 W0 S W' L T v l':=by
 refine⟨h.d.other hg (λg e=>⟨(h.off g e).1,(h.off g e).2.1,(h.row.lt g e).1,(h.off g e).2.2⟩),hr,λg e=> ?_⟩;rcases hn g e with h1|h1
 ·exact h.off g h1
 ·exact⟨λhs=>by have:=h.d.tw.lt hs;omega,λe2=>by have:=h.d.td.lt;omega,λp hp e2=>by have:=(h.d.bx p hp).1.lt;omega⟩
end
structure PlsOk (l:List Pc):Prop where
 id:∀(k:Nat) p,l[k]? =some p->p.id=61+(k:Int)
 ok:∀p∈l,PcOk p
 cl:∀p∈l,p.cls.size<=1000
theorem PlsOk.nil :PlsOk []:=⟨λk p h=>by simp at h,λp h=>by simp at h,λp h=>by simp at h⟩
theorem PlsOk.push {l:List Pc}{p:Pc}(h:PlsOk l)(hp:PcOk p)(hc:p.cls.size<=1000)(hi:p.id=61+(l.length:Int)):PlsOk (l++[p]):=by
 refine⟨λk q hq=> ?_,λq hq=> ?_,λq hq=> ?_⟩
 ·by_cases hk:k<l.length
  ·rw[List.getElem?_append_left hk]at hq
   exact h.id k q hq
  ·rw[List.getElem?_append_right oM]at hq
   have hk0:k=l.length:=by
    have:=(List.getElem?_eq_some_iff.1 hq).1;simp at this;omega
   subst hk0;simp at hq;subst hq;exact hi
 ·rcases List.mem_append.1 hq with h1|h1
  ·exact h.ok q h1
  ·rw[List.mem_singleton.1 h1]
   exact hp
 ·rcases List.mem_append.1 hq with h1|h1
  ·exact h.cl q h1
  ·rw[List.mem_singleton.1 h1]
   exact hc
def PlV (n₀ D:Nat)(sv:Value)(xs:List Int)(S:BS)(w:World)(M B2:Nat)(ev fv wv pv:Value)(ne nf:Nat)(ov kk:Value)(wr:World):Prop :=
 ∃(k:Nat) (S':BS) (l:List Pc),k<=M/\kk= .int .i64 (k:Nat)/\l.length<=k/\PlsOk l/\DP n₀ D sv xs S w S' wr [(B2,b7p ev fv wv pv,37)] [(206,ev,ne),(140,fv,nf)] ov l
theorem DP.pd {n₀ D:Nat}{sv:Value}{xs:List Int}{S0 S:BS}{W0 W W':World}{L:a9o}{T:SlL}{B:Nat}{id x y wt d:Int}{cs ns:ByteArray}{t:TypeId}{ov:Value}{l:List Pc}(h:DP n₀ D sv xs S0 W0 S W ((B,d8e id x y cs ns wt 0,t)::L) T ov l)(hW:W'=W.setCell ⟨B,6,none⟩ (.int .i64 d)):DP n₀ D sv xs S0 W0 S W' ((B,d8e id x y cs ns wt d,t)::L) T ov l:=h.put hW rfl
theorem b6j (n₀:Nat)(S:BS)(w:World)(hT:TW S w)(hlow:∀b,S b->n₀<=b)(hn0:n₀<=w.heap.size)(sv:Value)(xs:List Int)(hI:Intz n₀ w sv xs)
 (ev fv:Value) (ne nf:Nat) (hse:SL S w 206 ev ne) (hne:ne<=100) (hsf:SL S w 140 fv nf) (hnf:nf<=200) (wa pa:Option Addr) (wn wc pn pc:Nat) :
 Calls prog 75 #[.agg (b7p ev fv (.slice wa wn wc) (.slice pa pn pc)),sv] w λe w'=>∃S' v l,e= .returned v/\l.length<=6/\PlsOk l/\w'.ownsRow w.heap.size 66 7 v l.length (l.flatMap plE.enc)/\(∀g,v.ownBlock=some g->¬S' g)/\Ev noB S w S' w':=by
 obtain⟨ea,ec,rfl,-⟩:=hse.form;obtain⟨fa,fc,rfl,-⟩:=hsf.form;obtain⟨sa,sc,rfl⟩:∃a c,sv= .slice a xs.length c:=by
  obtain⟨⟨a,c,e,-⟩,-⟩:=hI;exact⟨a,c,e⟩
 have hb1:Below w.heap.size w (w.alloc (.cells (b7p (.slice ea ne ec) (.slice fa nf fc) (.slice wa wn wc) (.slice pa pn pc)) 37)):=zC;have htd:=TD.new (Ev.of_below (X:=noB) hT hb1).ok hlow (Nat.le_trans hn0 hb1.size) (hI.below (hb1.mono hn0));have hb2:Below w.heap.size w ((w.alloc (.cells (b7p (.slice ea ne ec) (.slice fa nf fc) (.slice wa wn wc) (.slice pa pn pc)) 37)).alloc (.cells #[.slice sa xs.length sc,.int .i64 0] 137)):=zC;have hB:=(Blk.new w (b7p (.slice ea ne ec) (.slice fa nf fc) (.slice wa wn wc) (.slice pa pn pc)) 37).alloc (.cells #[.slice sa xs.length sc,.int .i64 0] 137);simp only[World.size_alloc]at htd;go_enter func75,ntmps75;go_upto_region 3 with fail;refine a0n (λW1 hW1=> ?_);rw[<-hW1]at htd hb2 hB;have hnS:¬S w.heap.size:=λh=>Nat.lt_irrefl _ (hT.lt h)
 obtain⟨B2,hB2⟩:=zE w.heap.size;obtain⟨D,hD⟩:=zE (w.heap.size+1);obtain⟨sv,hsv⟩:=zE (Value.slice sa xs.length sc);have hDw:w.heap.size<=D:=oM;have hd1:DY n₀ D sv xs S w S W1 [(B2,b7p (.slice ea ne ec) (.slice fa nf fc) (.slice wa wn wc) (.slice pa pn pc),37)] [(206,.slice ea ne ec,ne),(140,.slice fa nf fc,nf)]:=by
  have hE:=Ev.of_below (X:=b0f D) hT hb2;rw[hD,hsv]at htd;refine⟨⟨htd,hE,hn0⟩,λp hp=> ?_,by simp,λq hq=> ?_⟩
  ·simp only[List.mem_cons,List.not_mem_nil,or_false]at hp
   subst hp;exact⟨by rw[<-hB2];exact hB,by rw[<-hB2];exact hnS,by show B2≠D;omega,by show w.heap.size<=B2;omega⟩
  ·simp only[List.mem_cons,List.not_mem_nil,or_false]at hq
   rcases hq with rfl|rfl
   ·exact hE.sl hse
   ·exact hE.sl hsf
 rw[hD,hB2,hsv];clear htd hb1 hb2 hB hW1 hD hsv hI hnS hB2 hlow hn0;go_wp2_with (first
  |(go_at_call 73;(with_reducible refine(hd1.call 7 oM oM).mono ?_);rintro e W2⟨many,rfl,m0,m1,hd2⟩))
 obtain⟨M,rfl⟩:∃M:Nat,many=M:=⟨many.toNat,oM⟩;have hM6:M<=6:=oM;obtain⟨ev,hev⟩:=zE (Value.slice ea ne ec);obtain⟨fv,hfv⟩:=zE (Value.slice fa nf fc);obtain⟨wv,hwv⟩:=zE (Value.slice wa wn wc);obtain⟨pv,hpv⟩:=zE (Value.slice pa pn pc);rw[hev,hfv,hwv,hpv]at hd2;rw[hev,hfv,hwv,hpv];have hFD:∀(S:BS) (W:World),TW S W->SL S W 140 fv nf->∀id,Calls prog 135 #[.agg (b7p ev fv wv pv),.int .i64 id] W λe w'=>(∃x,e= .returned (.int .i64 x)/\fits x)/\Below W.heap.size W w':=λS W h1 h2 id=>by
  rw[<-hev,<-hfv,<-hwv,<-hpv];rw[<-hfv]at h2;exact b0t S W h1 _ _ _ _ _ _ _ _ _ _ _ nf h2 hnf id
 clear hev hfv hwv hpv;go_loopw [6,8] (λov kk wr=>PlV n₀ D sv xs S w M B2 ev fv wv pv ne nf ov kk wr) (λ_ kk _=>M-(intOf kk).toNat)
 case atStart=>exact⟨0,S,[],oM,rfl,by simp,PlsOk.nil,hd2,⟨by simp,.inl ⟨rfl,by simp⟩⟩,λg e=>by cases e⟩
 case round =>
  clear hd1 hd2;obtain⟨k,S',l,hk,rfl,hn,hok,hd⟩:=hrel;by_cases hlt:k<M
  ·have hltI:(k:Int)<(M:Int):=oM
   obtain⟨oa,oc,rfl,-⟩:=(a0h a4f hd.row oM).form;go_upto_if 28 with(first
    |(go_at_call 73;(with_reducible refine(hd.call 10 oM oM).mono ?_);rintro e W2⟨s,rfl,s0,s1,hd2⟩)
    |(go_at_call 73;(with_reducible refine(hd2.call 2 oM oM).mono ?_);rintro e W3⟨q,rfl,q0,q1,hd3⟩))
   by_cases hq:q=1
   ·subst hq
    exact yad
   ·have hqb:(q==1)=false:=by simpa using hq
    exact yad
  ·have hge:¬(k:Int)<(M:Int):=oM
   go_wp2_with fail;go_ret;exact⟨S',_,rfl,l,oM,hok,hd.row,λg e=>(hd.off g e).1,hd.d.fin (Ev.refl hT) hDw⟩
end
section
open Go.RowKit Go.Shelf
attribute [local go_sem] Oper.semAt_some
theorem c4v {b:Act}{k:Nat}{v:Value}(h:b.tmps[k]?.getD undef=v):b.eval (.tmp k)=v:=by
 simpa[Act.eval]using h
def Own (n:Nat)(v:Value):Prop:=∀a k c,v= .slice (some a) k c->n<=a.block
theorem b6k (n:Nat):Own n (.slice none 0 0):=λ_ _ _ e=>by cases e
theorem a7k {base b:Nat}(hb:base<=b):∀(vs:List Value) (o:Nat) (W:World),base<=W.heap.size->Below base W (W.setCells b o vs)
 |[],_,_,_=>zR _ _
 |v::vs,o,W,hW=>by
  have h1:Below base W (W.setCell ⟨b,o,none⟩ v):=(zR _ W).grown (a0x W b o v) hW (λq e=>by cases e;exact hb);have h2:=a7k hb vs (o+1) (W.setCell ⟨b,o,none⟩ v) (by simpa using hW);exact h1.trans h2
theorem a9r {X S:BS}{W:World}(hT:TW S W){t e ty:TypeId}{s:Nat}(ht:prog.underlying t=some (.slice e))(he:ET e s){sv xv:Value}{n m:Nat}(hv:SL S W e sv n)(hx:SL S W e xv m)(hl:n+m<=1000000){base:Nat}(hbase:base<=W.heap.size)(hown:Own base sv) :
 ∃v' S' W',(Builtin.append_ #[t,t] ty #[sv,xv]).run prog W= .ok v' W'/\SL S' W' e v' (n+m)/\Ev X S W S' W'/\Below base W W'/\Own base v':=by
 obtain⟨i,z,hi,hz,hsz,hby,hzs,hzt⟩:=he.info;have hp:=he.pos;have hss:=he.size;obtain⟨xa,xc,news,rfl,hxn,hnl,hnc,hnt,hn1,hx0⟩:=hx.cells hT he;exact yae
theorem CT.ok.flat {U S:BS}{W:World}{ct:CT}{u:Value}(h:ct.ok U W u)(hk:ct.k≠3):ct.ok S W u:=⟨h.lt,h.i,h.s,h.b,λe=>absurd e hk,h.a⟩
theorem c2d {X S U:BS}{W:World}(hT:TW S W)(hU:TW U W){t e ty:TypeId}{s:Nat}(ht:prog.underlying t=some (.slice e))(he:ET e s){sv xv:Value}{n m:Nat}(hv:SL S W e sv n)(hx:SL U W e xv m)(hfl:∀ct∈a2n e,ct.k≠3)(hl:n+m<=1000000){base:Nat}(hbase:base<=W.heap.size)(hown:Own base sv) :
 ∃v' S' W',(Builtin.append_ #[t,t] ty #[sv,xv]).run prog W= .ok v' W'/\SL S' W' e v' (n+m)/\Ev X S W S' W'/\Below base W W'/\Own base v':=by
 obtain⟨i,z,hi,hz,hsz,hby,hzs,hzt⟩:=he.info;have hp:=he.pos;have hss:=he.size;obtain⟨xa,xc,news,rfl,hxn,hnl,hnc,hnt,hn1,hx0⟩:=hx.cells hU he;replace hnt:∀j u ct,news[j]? =some u->(a2n e)[j % s]? =some ct->ct.ok S W u:=λj u ct h1 h2=>(hnt j u ct h1 h2).flat (hfl ct (List.mem_of_getElem? h2))
 exact yae
structure OY (S0:BS)(W0:World)(S:BS)(W:World)(L:a9o)(T:SlL):Prop where
 o:OW S0 W0 S W L T
 bel:Below W0.heap.size W0 W
section
variable {S0 S S':BS}{W0 W W':World}{L:a9o}{T:SlL}{B i:Nat}{c c2 c':Array Value}{t t2 e:TypeId}{p:Nat×Array Value×TypeId}{v:Value}{n:Nat}
theorem OY.init (hT:TW S W):OY S W S W [] []:=⟨OW.init hT,zR _ _⟩
theorem OY.tw (h:OY S0 W0 S W L T):TW S W:=h.o.tw
theorem OY.size (h:OY S0 W0 S W L T):W0.heap.size<=W.heap.size:=h.bel.size
theorem OY.evo (h:OY S0 W0 S W L T)(he:Ev noB S W S' W')(hb:Below W0.heap.size W W'):OY S0 W0 S' W' L T:=⟨h.o.evo he,h.bel.trans hb⟩
theorem OY.up (h:OY S0 W0 S W L T)(hb:Below W.heap.size W W'):OY S0 W0 S W' L T:=⟨h.o.up hb,h.bel.trans (hb.mono h.size)⟩
theorem OY.drew (h:OY S0 W0 S W L T):OY S0 W0 S W.drew L T:=h.up (zR _ _).drew
theorem OY.fresh (h:OY S0 W0 S W L T)(hb:Below W.heap.size W W')(hB:W.heap.size<=B)(hk:Blk W' B c t):OY S0 W0 S W' ((B,c,t)::L) T:=⟨h.o.fresh hb hB hk,h.bel.trans (hb.mono h.size)⟩
theorem OY.box (h:OY S0 W0 S W L T)(c:Array Value)(t:TypeId):OY S0 W0 S (W.alloc (.cells c t)) ((W.heap.size,c,t)::L) T:=h.fresh ((zR _ _).alloc (yR _) _) (yR _) (Blk.new _ _ _)
theorem OY.cellT (h:OY S0 W0 S W L T){c:Array Value}{e:TypeId}(hc:TB S W e c):OY S0 W0 (λb=>S b\/b=W.heap.size) (W.alloc (.cells c e)) L T:=h.evo (Ev.alloc h.tw hc) ((zR _ _).alloc h.size _)
theorem OY.add (h:OY S0 W0 S W L T){e:TypeId}{v:Value}{n:Nat}(hv:SL S W e v n):OY S0 W0 S W L ((e,v,n)::T):=⟨h.o.add hv,h.bel⟩
theorem OY.tail (h:OY S0 W0 S W (p::L) T):OY S0 W0 S W L T:=⟨h.o.tail,h.bel⟩
theorem OY.tailT {q:TypeId×Value×Nat}(h:OY S0 W0 S W L (q::T)):OY S0 W0 S W L T:=⟨h.o.tailT,h.bel⟩
theorem OY.swap {q:Nat×Array Value×TypeId}(h:OY S0 W0 S W (p::q::L) T):OY S0 W0 S W (q::p::L) T:=⟨h.o.swap,h.bel⟩
theorem OY.set (h:OY S0 W0 S W ((B,c,t)::L) T)(i:Nat)(v:Value)(hc:c.setIfInBounds i v=c'):OY S0 W0 S (W.setCell ⟨B,i,none⟩ v) ((B,c',t)::L) T :=
 ⟨h.o.set i v hc,h.bel.grown (a0x W B i v) h.size (λq e=>by cases e;exact(h.o.bx _ (List.mem_cons_self ..)).2.2)⟩
theorem OY.put {v:Value}(h:OY S0 W0 S W ((B,c,t)::L) T)(hW:W'=W.setCell ⟨B,i,none⟩ v)(hc:c.setIfInBounds i v=c'):OY S0 W0 S W' ((B,c',t)::L) T:=hW▸h.set i v hc
theorem OY.b0 (h:OY S0 W0 S W ((B,c,t)::L) T):Blk W B c t:=h.o.b0
theorem OY.b1 (h:OY S0 W0 S W (p::(B,c,t)::L) T):Blk W B c t:=h.o.b1
theorem OY.b2 {p2:Nat×Array Value×TypeId}(h:OY S0 W0 S W (p::p2::(B,c,t)::L) T):Blk W B c t:=h.tail.b1
theorem OY.s0 {e:TypeId}{v:Value}{n:Nat}(h:OY S0 W0 S W L ((e,v,n)::T)):SL S W e v n:=h.o.s0
theorem OY.s1 {q:TypeId×Value×Nat}{e:TypeId}{v:Value}{n:Nat}(h:OY S0 W0 S W L (q::(e,v,n)::T)):SL S W e v n:=h.o.s1
theorem OY.s2 {q q2:TypeId×Value×Nat}{e:TypeId}{v:Value}{n:Nat}(h:OY S0 W0 S W L (q::q2::(e,v,n)::T)):SL S W e v n:=h.o.s2
theorem b1g {U:BS}{n0:Nat}(hT:TW U W)(hb:Below n0 W W')(hU:∀b,U b->b<n0):TW U W':=λb hu=>by
 obtain⟨c,e,hc,ht⟩:=hT b hu;exact⟨c,e,hc.below hb (hU b hu),ht.mono (λ_ h=>h) (λb' c' e' hb' hc'=>⟨c',hc'.below hb (hU b' hb'),rfl⟩)⟩
theorem a4n {U:BS}{n0:Nat}(hb:Below n0 W W')(hU:∀b,U b->b<n0)(h:SL U W e v n):SL U W' e v n:=h.mono (λ_ h=>h) (λb' c' e' hb' hc'=>⟨c',hc'.below hb (hU b' hb'),rfl⟩)
theorem OY.old (h:OY S0 W0 S W L T){U:BS}(hT:TW U W0):TW U W:=b1g hT h.bel (λb hb=>hT.lt hb)
theorem OY.oldS (h:OY S0 W0 S W L T){U:BS}(hT:TW U W0){v:Value}{n:Nat}(hs:SL U W0 e v n):SL U W e v n:=a4n h.bel (λb hb=>hT.lt hb) hs
theorem OY.evn (h:OY noB W0 S W L T)(he:Ev noB noB W S' W'):OY noB W0 (λb=>S b\/S' b) W' L T:=by
 have hb:Below W.heap.size W W':=he.low;have hS:∀b,S b->b<W.heap.size:=λb hb=>h.tw.lt hb
 have h1:TW S W':=b1g h.tw hb hS;have hn:∀b,S' b->W.heap.size<=b:=λb hb=>(he.new b hb).elim (λh=>h.elim) id
 refine h.evo ⟨λ_ hb=> .inl hb,λb hb=>hb.elim .inl (λh=> .inr (hn b h)),he.os,he.tape,he.output,he.size,λb hb' _ _=>hb.block b hb',λb c e hb' hc=>⟨c,hc.below hb (hS b hb'),rfl⟩,λb hb'=> ?_⟩ (hb.mono h.size);rcases hb' with hb'|hb'
 ·obtain⟨c,e,hc,ht⟩:=h1 b hb'
  exact⟨c,e,hc,ht.mono (λ_ h=> .inl h) (Shp.refl _ _)⟩
 ·obtain⟨c,e,hc,ht⟩:=he.ok b hb'
  exact⟨c,e,hc,ht.mono (λ_ h=> .inr h) (Shp.refl _ _)⟩
theorem b2u {S S':BS}(h:SL S' W e v n):SL (λb=>S b\/S' b) W e v n:=h.mono (λ_ h=> .inr h) (Shp.refl _ _)
theorem OY.store (h:OY S0 W0 S W L T){e:TypeId}{b off n cap s:Nat}(he:ET e s)(hv:SL S W e (.slice (some ⟨b,off,none⟩) n cap) n)(ho:Own W0.heap.size (.slice (some ⟨b,off,none⟩) n cap))(k i:Nat)(ct:CT)(hct:(a2n e)[i]? =some ct)(u:Value)(hu:ct.ok S W u) :
 OY S0 W0 S (W.setCell ⟨b,off+k*s+i,none⟩ u) L T/\W.frozen? ⟨b,off+k*s+i,none⟩=false:=by
 obtain⟨h1,h2⟩:=SL.store (X:=noB) h.tw he hv k i ct hct u hu;exact⟨h.evo h1 ((zR _ W).grown (a0x W b _ u) h.size (λq e=>by cases e;exact ho _ _ _ rfl)),h2⟩
theorem OY.append (h0:OY S0 W0 S W L T){o:Oper}{a:Act}{K:Act->World->Prop}{Q:Exit->Act->World->Prop}(sO xO:Operand)(t:TypeId)(ho:o.op= .call { callee:= .builtin .append,args:= #[sO,xO],argTypes:= #[t,t] })
 {e:TypeId} {s:Nat} (ht:prog.underlying t=some (.slice e)) (he:ET e s) {sv xv:Value} {n m:Nat} (hsv:a.eval sO=sv) (hv:SL S W e sv n) (hown:Own W0.heap.size sv) (hxv:a.eval xO=xv) (hx:SL S W e xv m) (hl:n+m<=1000000)
 (h:∀v' S' w',OY S0 W0 S' w' L ((e,v',n+m)::T)->Own W0.heap.size v'->K (a.put o.dst v') w'):Oper.wp prog o a W K Q:=by
 obtain⟨v',S',w',hr,h2,h3,h4,h5⟩:=a9r (X:=noB) h0.tw (ty:=o.type) ht he hv hx hl h0.size hown;exact yfa
theorem OY.append_l (h0:OY S0 W0 S W L T){ops:Array Oper}{rest:List Oper}{o:Oper}{a:Act}{Q:Exit->Act->World->Prop}(hgd:o.guard=none)(sO xO:Operand)(t:TypeId)(ho:o.op= .call { callee:= .builtin .append,args:= #[sO,xO],argTypes:= #[t,t] })
 {e:TypeId} {s:Nat} (ht:prog.underlying t=some (.slice e)) (he:ET e s) {sv xv:Value} {n m:Nat} (hsv:a.eval sO=sv) (hv:SL S W e sv n) (hown:Own W0.heap.size sv) (hxv:a.eval xO=xv) (hx:SL S W e xv m) (hl:n+m<=1000000)
 (h:∀v' S' w',OY S0 W0 S' w' L ((e,v',n+m)::T)->Own W0.heap.size v'->wpList prog ops Q rest (a.put o.dst v') w'):wpList prog ops Q (o::rest) a W :=
 wpList_plain hgd λ_ hK=>h0.append sO xO t ho ht he hsv hv hown hxv hx hl λv' S' w' h2 h3=>hK _ _ (h v' S' w' h2 h3)
theorem OY.append_f {U:BS}(h0:OY S0 W0 S W L T)(hU:TW U W){o:Oper}{a:Act}{K:Act->World->Prop}{Q:Exit->Act->World->Prop}(sO xO:Operand)(t:TypeId)(ho:o.op= .call { callee:= .builtin .append,args:= #[sO,xO],argTypes:= #[t,t] })
 {e:TypeId} {s:Nat} (ht:prog.underlying t=some (.slice e)) (he:ET e s) (hfl:∀ct∈a2n e,ct.k≠3) {sv xv:Value} {n m:Nat} (hsv:a.eval sO=sv) (hv:SL S W e sv n) (hown:Own W0.heap.size sv) (hxv:a.eval xO=xv) (hx:SL U W e xv m) (hl:n+m<=1000000)
 (h:∀v' S' w',OY S0 W0 S' w' L ((e,v',n+m)::T)->Own W0.heap.size v'->Ev noB S W S' w'->K (a.put o.dst v') w'):Oper.wp prog o a W K Q:=by
 obtain⟨v',S',w',hr,h2,h3,h4,h5⟩:=c2d (X:=noB) h0.tw hU (ty:=o.type) ht he hv hx hfl hl h0.size hown;exact yez
theorem OY.append_fl {U:BS}(h0:OY S0 W0 S W L T)(hU:TW U W){ops:Array Oper}{rest:List Oper}{o:Oper}{a:Act}{Q:Exit->Act->World->Prop}(hgd:o.guard=none)(sO xO:Operand)(t:TypeId)(ho:o.op= .call { callee:= .builtin .append,args:= #[sO,xO],argTypes:= #[t,t] })
 {e:TypeId} {s:Nat} (ht:prog.underlying t=some (.slice e)) (he:ET e s) (hfl:∀ct∈a2n e,ct.k≠3) {sv xv:Value} {n m:Nat} (hsv:a.eval sO=sv) (hv:SL S W e sv n) (hown:Own W0.heap.size sv) (hxv:a.eval xO=xv) (hx:SL U W e xv m) (hl:n+m<=1000000)
 (h:∀v' S' w',OY S0 W0 S' w' L ((e,v',n+m)::T)->Own W0.heap.size v'->Ev noB S W S' w'->wpList prog ops Q rest (a.put o.dst v') w'):wpList prog ops Q (o::rest) a W :=
 wpList_plain hgd λ_ hK=>h0.append_f hU sO xO t ho ht he hfl hsv hv hown hxv hx hl λv' S' w' h2 h3 h4=>hK _ _ (h v' S' w' h2 h3 h4)
theorem OY.append_n (h0:OY S0 W0 S W L T){ops:Array Oper}{rest:List Oper}{o:Oper}{a:Act}{Q:Exit->Act->World->Prop}(hgd:o.guard=none)(sO xO:Operand)(t:TypeId)(ho:o.op= .call { callee:= .builtin .append,args:= #[sO,xO],argTypes:= #[t,t] })
 {e:TypeId} {s:Nat} (ht:prog.underlying t=some (.slice e)) (he:ET e s) {v:Value} {n:Nat} (hsv:a.eval sO=v) (hv:SL S W e v n) (hown:Own W0.heap.size v) {H:Nat} (hxv:a.eval xO= .slice (some ⟨H,0,none⟩) 1 1) (hH:W.heap.size=H) {c:Array Value} (hc:TB S W e c) (hcs:c.size=s) (hl:n<=100000)
 (h:∀v' S' w',OY S0 W0 S' w' L ((e,v',n+1)::T)->Own W0.heap.size v'->wpList prog ops Q rest (a.put o.dst v') w'):wpList prog ops Q (o::rest) a (W.alloc (.cells c e)):=by
 subst hH;have h1:=h0.cellT hc;have hA:=Ev.alloc (X:=noB) h0.tw hc;exact ygt
end
end
section
open Go.RowKit Go.Shelf
attribute [local go_sem] Oper.semAt_some
attribute [local go_sem ↓] Go.wp_at_zero Go.wp_at_succ
theorem OY.empty {S0 S:BS}{W0 W:World}{L:a9o}{T:SlL}(h:OY S0 W0 S W L T)(e:TypeId):OY S0 W0 (λb=>S b\/b=W.heap.size) (W.alloc (.cells #[] e)) L ((e,.slice (some ⟨W.heap.size,0,none⟩) 0 0,0)::T) :=
 (h.cellT c4q).add (SL.blk (.inr rfl) (Blk.new W #[] e) vM)
theorem c4w {n b k c:Nat}(h:n<=b)(o:Nat):Own n (.slice (some ⟨b,o,none⟩) k c):=λa k' c' e=>by cases e;exact h
theorem b4t :∀ct∈a2n 26,ct.k≠3:=jM
theorem b9f :∀ct∈a2n 140,ct.k≠3:=jM
theorem b4u (U:BS)(w:World)(hT:TW U w)(v:Value)(n:Nat)(hv:SL U w 26 v n)(hn:n<=1000) :
 Calls prog 136 #[v] w λe w'=>∃S' v',e= .returned v'/\SL S' w' 26 v' n/\Ev noB noB w S' w':=by
 have ho:=(OY.init (TW.none w)).empty 26;have hU1:=ho.old hT;have hv1:=ho.oldS hT hv;obtain⟨a,cap,rfl,-⟩:=hv.form;go_enter func136,ntmps136;go_wp2_with (first
  |(at_builtin;refine ho.append_fl hU1 qM _ _ 147 qM underlying147 a1s b4t qM ho.s0 (c4w (yR _) _) qM hv1 oM ?_;intro v9 S9 w9 ho9 hown9 _))
 go_ret;refine⟨S9,_,rfl,?_,ho9.o.ev⟩;have:=ho9.s0;rwa [Nat.zero_add]at this
abbrev c2e :Array Value:= #[.string ⟨#[]⟩,.string ⟨#[77,111,111,114]⟩,.string ⟨#[71,97,116,101]⟩,.string ⟨#[120,32,121]⟩,.string ⟨#[32,120]⟩,.string ⟨#[120,32]⟩,.string ⟨#[97,34,98]⟩,.string ⟨#[97,98,99,100,101,102,103,104,105,106,107,108,109,110,111,112,113,114,115,116,117,118,119,120,121]⟩,.string ⟨#[65]⟩,.string ⟨#[31]⟩]
theorem a6x (k:Nat)(hk:k<1000):∃s:ByteArray,s.size<=30/\∀w:World,Calls prog 79 #[.int .i64 (k:Nat)] w λe w'=>e= .returned (.string s)/\Below w.heap.size w w':=by
 obtain⟨m,hm,hm2⟩:∃m:Nat,(k:Int) % 10=(m:Int)/\m<10:=⟨k % 10,oM,oM⟩;obtain⟨s,hs,hc⟩:∃s:ByteArray,s.size<=30/\c2e[m]? =some (.string s):=by
  match m,hm2 with
  |0,_=>exact⟨_,jM,rfl⟩
  |1,_=>exact⟨_,jM,rfl⟩
  |2,_=>exact⟨_,jM,rfl⟩
  |3,_=>exact⟨_,jM,rfl⟩
  |4,_=>exact⟨_,jM,rfl⟩
  |5,_=>exact⟨_,jM,rfl⟩
  |6,_=>exact⟨_,jM,rfl⟩
  |7,_=>exact⟨_,jM,rfl⟩
  |8,_=>exact⟨_,jM,rfl⟩
  |9,_=>exact⟨_,jM,rfl⟩
 refine⟨s,hs,λw=> ?_⟩;have kB:=Blk.new w c2e 9;have cs:(w.alloc (.cells c2e 9)).cell? ⟨w.heap.size,m,none⟩=some (.string s):=(kB.cell m).trans hc;have hmI:(m:Int)<10:=oM;have hkm:Int.tmod (k:Int) 10=(m:Int):=by rw[Int.tmod_eq_emod_of_nonneg oM];exact hm
 clear kB hc;go_enter func79,ntmps79;exact yed
end
section
open Go Go.RowKit Go.Shelf
attribute [local go_sem] Oper.semAt_some
attribute [local go_sem ↓] Go.wp_at_zero Go.wp_at_succ
theorem Ev.row {S S':BS}{W W':World}(h:Ev noB S W S' W'){base:Nat}{e:TypeId}{s:Nat}{v:Value}{n:Nat}{xs:List Value}(hr:W.ownsRow base e s v n xs)(ho:∀b,v.ownBlock=some b->¬S b):W'.ownsRow base e s v n xs/\∀b,v.ownBlock=some b->¬S' b:=by
 obtain⟨h1,h2⟩:=hr;rcases h2 with⟨rfl,h3⟩|⟨g,cap,cur,rfl,h3,h4,h5⟩
 ·exact⟨⟨h1,.inl ⟨rfl,h3⟩⟩,λb e=>by cases e⟩
 ·have hb:Blk W g cur e:=h4
  have hn:¬S g:=ho g rfl;exact⟨⟨h1,.inr ⟨g,cap,cur,rfl,h3,h.blk hb hn (λh=>h),h5⟩⟩,λb e=>by cases e;exact h.not hb.lt hn⟩
theorem d8g {W:World}{base:Nat}{e:TypeId}{s:Nat}{v:Value}{n:Nat}{xs:List Value}(hr:W.ownsRow base e s v n xs):∀g,v.ownBlock=some g->∃cur,Blk W g cur e:=λg hg=>by
 rcases hr.2 with⟨rfl,h3⟩|⟨g',cap,cur,rfl,h3,h4,h5⟩
 ·cases hg
 ·cases hg;exact⟨cur,h4⟩
theorem a6o {S:BS}{W:World}{e:TypeId}{v:Value}{n m:Nat}(h:SL S W e v n)(hS:∀b,S b->m<=b):Own m v:=λa k c e=>by
 obtain⟨a',c',e',-,h2⟩:=h;rw[e']at e
 cases e;rcases h2 with⟨e3,-⟩|⟨b,o,c2,e3,hb,-⟩
 ·cases e3
 ·cases e3;exact hS b hb
theorem OY.known {S0 S:BS}{W0 W:World}{L:a9o}{T:SlL}{B:Nat}{c:Array Value}{t:TypeId}(h:OY S0 W0 S W L T)(hk:Blk W B c t)(hS:¬S B)(hB:W0.heap.size<=B)(hne:∀p∈L,p.1≠B):OY S0 W0 S W ((B,c,t)::L) T :=
 ⟨⟨h.o.ev,λp hp=>by
   rcases List.mem_cons.1 hp with rfl|hp
   ·exact⟨hk,hS,hB⟩
   ·exact h.o.bx p hp,by
   rw[List.map_cons];exact List.nodup_cons.2 ⟨λhm=>by
    obtain⟨p,hp,e⟩:=List.mem_map.1 hm;exact hne p hp e,h.o.ne⟩,h.o.sl⟩,h.bel⟩
theorem OY.sub {S0 S:BS}{W0 W:World}{L:a9o}{T T':SlL}(h:OY S0 W0 S W L T)(hs:∀q∈T',q∈T):OY S0 W0 S W L T':=⟨⟨h.o.ev,h.o.bx,h.o.ne,λq hq=>h.o.sl q (hs q hq)⟩,h.bel⟩
structure MapI (U:BS)(W:World)(ev fv wv pv:Value)(ne nf nw:Nat)(l:List Pc):Prop where
 tw:TW U W
 e:SL U W 206 ev ne
 f:SL U W 140 fv nf
 w:SL U W 149 wv nw
 p:Lst plE W.heap.size W pv l
 frm:Frm pv l.length
 ne:ne<=1000
 nf:nf<=1000
 nw:nw<=1000
 np:l.length<=1000
theorem MapI.up {U:BS}{W W':World}{ev fv wv pv:Value}{ne nf nw:Nat}{l:List Pc}(h:MapI U W ev fv wv pv ne nf nw l)(hb:Below W.heap.size W W'):MapI U W' ev fv wv pv ne nf nw l :=
 have hU:=λb hb=>h.tw.lt (b:=b) hb
 ⟨b1g h.tw hb hU,a4n hb hU h.e,a4n hb hU h.f,a4n hb hU h.w,h.p.up hb,h.frm,h.ne,h.nf,h.nw,h.np⟩
structure OP (S0:BS)(W0:World)(S:BS)(W:World)(L:a9o)(T:SlL)(ov:Value)(l:List Pc):Prop where
 b:OY S0 W0 S W L T
 row:W.ownsRow W0.heap.size 66 7 ov l.length (l.flatMap plE.enc)
 off:∀g,ov.ownBlock=some g->¬S g
 np:∀p∈L,p.2.2≠66
section
variable {S0 S S':BS}{W0 W W':World}{L:a9o}{T:SlL}{B i:Nat}{c c':Array Value}{t e:TypeId}{ov v:Value}{l:List Pc}{p:Nat×Array Value×TypeId}{n:Nat}
theorem OP.evo (h:OP S0 W0 S W L T ov l)(he:Ev noB S W S' W')(hb:Below W0.heap.size W W'):OP S0 W0 S' W' L T ov l:=by
 obtain⟨h1,h2⟩:=he.row h.row h.off;exact⟨h.b.evo he hb,h1,h2,h.np⟩
theorem OP.up (h:OP S0 W0 S W L T ov l)(hb:Below W.heap.size W W'):OP S0 W0 S W' L T ov l:=h.evo (Ev.of_below h.b.tw hb) (hb.mono h.b.size)
theorem OP.box (h:OP S0 W0 S W L T ov l)(c:Array Value)(t:TypeId)(ht:t≠66):OP S0 W0 S (W.alloc (.cells c t)) ((W.heap.size,c,t)::L) T ov l:=by
 have hb:Below W.heap.size W (W.alloc (.cells c t)):=(zR _ _).alloc (yR _) _;have h1:=h.up hb;exact⟨h.b.box c t,h1.row,h1.off,λp hp=>by
  rcases List.mem_cons.1 hp with rfl|hp
  ·exact ht
  ·exact h.np p hp⟩
theorem OP.add (h:OP S0 W0 S W L T ov l){e:TypeId}{v:Value}{n:Nat}(hv:SL S W e v n):OP S0 W0 S W L ((e,v,n)::T) ov l:=⟨h.b.add hv,h.row,h.off,h.np⟩
theorem OP.tail (h:OP S0 W0 S W (p::L) T ov l):OP S0 W0 S W L T ov l:=⟨h.b.tail,h.row,h.off,λq hq=>h.np q (List.mem_cons_of_mem _ hq)⟩
theorem OP.sub {T':SlL}(h:OP S0 W0 S W L T ov l)(hs:∀q∈T',q∈T):OP S0 W0 S W L T' ov l:=⟨h.b.sub hs,h.row,h.off,h.np⟩
theorem OP.swap {q:Nat×Array Value×TypeId}(h:OP S0 W0 S W (p::q::L) T ov l):OP S0 W0 S W (q::p::L) T ov l:=⟨h.b.swap,h.row,h.off,λr hr=>h.np r (by
 rcases List.mem_cons.1 hr with rfl|hr
 ·exact List.mem_cons_of_mem _ (List.mem_cons_self ..)
 ·rcases List.mem_cons.1 hr with rfl|hr
  ·exact List.mem_cons_self ..
  ·exact List.mem_cons_of_mem _ (List.mem_cons_of_mem _ hr))⟩
theorem OP.put {v:Value}(h:OP S0 W0 S W ((B,c,t)::L) T ov l)(hW:W'=W.setCell ⟨B,i,none⟩ v)(hc:c.setIfInBounds i v=c'):OP S0 W0 S W' ((B,c',t)::L) T ov l:=by
 subst hW;refine⟨h.b.set i v hc,a0r h.row (a0x W B i v) ?_,h.off,λp hp=> ?_⟩
 ·intro g hg
  cases hg;refine⟨_,h.b.b0,λcur e2=> ?_⟩;have:=h.np _ (List.mem_cons_self ..);simp only[Obj.cells.injEq]at e2;exact this e2.2.1
 ·rcases List.mem_cons.1 hp with rfl|hp
  ·exact h.np (B,c,t) (List.mem_cons_self ..)
  ·exact h.np p (List.mem_cons_of_mem _ hp)
theorem OP.evn (h:OP noB W0 S W L T ov l)(he:Ev noB noB W S' W'):OP noB W0 (λb=>S b\/S' b) W' L T ov l:=by
 have hb:Below W.heap.size W W':=he.low;have h1:=h.up hb;refine⟨h.b.evn he,h1.row,λg hg hs=> ?_,h.np⟩;obtain⟨cur,hk⟩:=d8g h.row g hg;rcases hs with hs|hs
 ·exact h.off g hg hs
 ·exact(he.new g hs).elim (λh=>h.elim) (λh=>by have:=hk.lt;omega)
theorem OP.append (h0:OP S0 W0 S W L T ov l){o:Oper}{a:Act}{K:Act->World->Prop}{Q:Exit->Act->World->Prop}(sO xO:Operand)(t:TypeId)(ho:o.op= .call { callee:= .builtin .append,args:= #[sO,xO],argTypes:= #[t,t] })
 {e:TypeId} {s:Nat} (ht:prog.underlying t=some (.slice e)) (he:ET e s) {sv xv:Value} {n m:Nat} (hsv:a.eval sO=sv) (hv:SL S W e sv n) (hown:Own W0.heap.size sv) (hxv:a.eval xO=xv) (hx:SL S W e xv m) (hl:n+m<=1000000)
 (h:∀v' S' w',OP S0 W0 S' w' L ((e,v',n+m)::T) ov l->Own W0.heap.size v'->K (a.put o.dst v') w'):Oper.wp prog o a W K Q:=by
 obtain⟨v',S',w',hr,h2,h3,h4,h5⟩:=a9r (X:=noB) h0.b.tw (ty:=o.type) ht he hv hx hl h0.b.size hown;exact yfa
theorem OP.append_l (h0:OP S0 W0 S W L T ov l){ops:Array Oper}{rest:List Oper}{o:Oper}{a:Act}{Q:Exit->Act->World->Prop}(hgd:o.guard=none)(sO xO:Operand)(t:TypeId)(ho:o.op= .call { callee:= .builtin .append,args:= #[sO,xO],argTypes:= #[t,t] })
 {e:TypeId} {s:Nat} (ht:prog.underlying t=some (.slice e)) (he:ET e s) {sv xv:Value} {n m:Nat} (hsv:a.eval sO=sv) (hv:SL S W e sv n) (hown:Own W0.heap.size sv) (hxv:a.eval xO=xv) (hx:SL S W e xv m) (hl:n+m<=1000000)
 (h:∀v' S' w',OP S0 W0 S' w' L ((e,v',n+m)::T) ov l->Own W0.heap.size v'->wpList prog ops Q rest (a.put o.dst v') w'):wpList prog ops Q (o::rest) a W :=
 wpList_plain hgd λ_ hK=>h0.append sO xO t ho ht he hsv hv hown hxv hx hl λv' S' w' h2 h3=>hK _ _ (h v' S' w' h2 h3)
theorem OP.append_n (h0:OP S0 W0 S W L T ov l){ops:Array Oper}{rest:List Oper}{o:Oper}{a:Act}{Q:Exit->Act->World->Prop}(hgd:o.guard=none)(sO xO:Operand)(t:TypeId)(ho:o.op= .call { callee:= .builtin .append,args:= #[sO,xO],argTypes:= #[t,t] })
 {e:TypeId} {s:Nat} (ht:prog.underlying t=some (.slice e)) (he:ET e s) {v:Value} {n:Nat} (hsv:a.eval sO=v) (hv:SL S W e v n) (hown:Own W0.heap.size v) {H:Nat} (hxv:a.eval xO= .slice (some ⟨H,0,none⟩) 1 1) (hH:W.heap.size=H) {c:Array Value} (hc:TB S W e c) (hcs:c.size=s) (hl:n<=100000)
 (h:∀v' S' w',OP S0 W0 S' w' L ((e,v',n+1)::T) ov l->Own W0.heap.size v'->wpList prog ops Q rest (a.put o.dst v') w'):wpList prog ops Q (o::rest) a (W.alloc (.cells c e)):=by
 subst hH;have hA:=Ev.alloc (X:=noB) h0.b.tw hc;have h1:=h0.evo hA ((zR _ _).alloc h0.b.size _);exact ygt
end
theorem SL.way {S:BS}{W:World}{b off n cap:Nat}(hT:TW S W)(h:SL S W 149 (.slice (some ⟨b,off,none⟩) n cap) n){k:Nat}(hk:k<n):∃id lv m lev cs ns st wt ds,W.cell? ⟨b,off+k*8,none⟩=some (.int .i64 id)/\W.cell? ⟨b,off+k*8+1,none⟩=some lv/\W.cell? ⟨b,off+k*8+2,none⟩=some (.int .i64 lev)/\W.cell? ⟨b,off+k*8+3,none⟩=some (.string cs)/\W.cell? ⟨b,off+k*8+4,none⟩=some (.string ns)/\W.cell? ⟨b,off+k*8+5,none⟩=some (.bool st)/\W.cell? ⟨b,off+k*8+6,none⟩=some (.int .i64 wt)/\W.cell? ⟨b,off+k*8+7,none⟩=some (.int .i64 ds) /\
 fits id/\SL S W 26 lv m/\m<=100/\fits lev/\cs.size<=30/\ns.size<=30/\fits wt/\fits ds:=by
 obtain⟨u0,c0,h0⟩:=h.cell hT a4e hk 0 .int rfl;obtain⟨u1,c1,h1⟩:=h.cell hT a4e hk 1 (.sl 26) rfl;obtain⟨u2,c2,h2⟩:=h.cell hT a4e hk 2 .int rfl;obtain⟨u3,c3,h3⟩:=h.cell hT a4e hk 3 .str rfl;obtain⟨u4,c4,h4⟩:=h.cell hT a4e hk 4 .str rfl;obtain⟨u5,c5,h5⟩:=h.cell hT a4e hk 5 .bool rfl;obtain⟨u6,c6,h6⟩:=h.cell hT a4e hk 6 .int rfl;obtain⟨u7,c7,h7⟩:=h.cell hT a4e hk 7 .int rfl;obtain⟨id,rfl,f0⟩:=h0.i rfl;obtain⟨m,hm,hl⟩:=h1.l rfl;obtain⟨lev,rfl,f2⟩:=h2.i rfl;obtain⟨cs,rfl,f3⟩:=h3.s rfl;obtain⟨ns,rfl,f4⟩:=h4.s rfl;obtain⟨st,rfl⟩:=h5.b rfl;obtain⟨wt,rfl,f6⟩:=h6.i rfl;obtain⟨ds,rfl,f7⟩:=h7.i rfl;exact⟨id,u1,m,lev,cs,ns,st,wt,ds,c0,c1,c2,c3,c4,c5,c6,c7,f0,hl,hm,f2,f3,f4,f6,f7⟩
section
variable {α:Type}{E:El α}{P:Program}{st:TypeId}
theorem El.append_freshO (hE:E.Ok)(hI:E.In P st)(W:World)(base Z:Nat)(xv:Value)(l:List α)(ty:TypeId)(hZ:W.ownsRow base E.t E.s (.slice (some ⟨Z,0,none⟩) 0 0) 0 []){n0:Nat}(hx:Lst E n0 W xv l)(hf:Frm xv l.length)(hl:l.length<=100000)(hb:base<=W.heap.size) :
 ∃v' W',(Builtin.append_ #[st,st] ty #[.slice (some ⟨Z,0,none⟩) 0 0,xv]).run P W= .ok v' W'/\W'.ownsRow base E.t E.s v' l.length (l.flatMap E.enc)/\Below W.heap.size W W'/\∃g cap,v'= .slice (some ⟨g,0,none⟩) l.length cap/\(g=Z\/W.heap.size<=g):=by
 obtain⟨i0,z,hi0,hz0,hz1,hz2,hz3⟩:=hI.info;by_cases hne:l=[]
 ·subst hne
  have hs:Src P i0.size st xv 0 [] W:=by
   exact yei
  have hr:=run_append_room_src (P:=P) W st st ty E.t i0 hI.under hi0 Z 0 0 0 xv 0 [] hs oM vM vM;exact⟨_,W,hr,hZ,zR _ _,Z,0,rfl,.inl rfl⟩
 ·have hpos:0<l.length:=List.length_pos_iff.2 hne
  obtain⟨b,off,cap,rfl,hcap,hbn,-⟩:=hx.some_ hpos;have hnews:∀j u,(l.flatMap E.enc)[j]? =some u->W.cell? ((⟨b,off,none⟩:Addr).add j)=some u:=λj u hj=>by
   exact yih
  obtain⟨v',W',hr,hown,-,-,-⟩:=run_append_own_at (P:=P) W base st ty E.t i0 _ E.s i0.bytes hI.under hi0 hz0 hz1 rfl hz3 hE.pos _ 0 [] hZ ⟨b,off,none⟩ l.length cap (l.flatMap E.enc) (a0v hE l) hnews (a4g hE l) oK (Nat.le_trans (Nat.mul_le_mul (show 0+l.length<=100000 by omega) hz2) jM) hb;have hs:Src P i0.size st (.slice (some ⟨b,off,none⟩) l.length cap) l.length (l.flatMap E.enc) W:=Src.ofSlice W hI.under _ _ cap _ (by rw[hz1];exact a0v hE l) hnews (a4g hE l);have hold:(Builtin.firstCells i0.size 0 (.slice (some ⟨Z,0,none⟩) 0 0)).run P W.drew= .ok (([]:List Value).toArray) W.drew:=run_firstCells_some W.drew i0.size 0 ⟨Z,0,none⟩ 0 0 [] vM vM;have hcap:Builtin.nextslicecap (0+l.length) 0*i0.bytes<=281474976710656:=growslice_fits oM (Nat.le_trans (Nat.mul_le_mul (show 0+l.length<=100000 by omega) hz2) jM);have hr2:=run_append_grow_src (P:=P) W st st ty E.t i0 _ hI.under hi0 hz0 (some ⟨Z,0,none⟩) 0 0 [] hold _ l.length _ hs oM oM hcap;rw[hr2]at hr;injection hr with h1 h2;subst h1 h2;have hown':=hown;rw[Nat.zero_add,List.nil_append]at hown';exact⟨_,_,hr2,by simpa using hown,(zR _ W).drew.alloc (yR _) _,W.heap.size,grownCap W (0+l.length) 0 E.t,by rw[Nat.zero_add],.inr (yR _)⟩
theorem El.step_freshO (hE:E.Ok)(hI:E.In P st){o:Oper}{a:Act}{w:World}{K:Act->World->Prop}{Q:Exit->Act->World->Prop}(s x:Operand)
 (ho:o.op= .call { callee:= .builtin .append,args:= #[s,x],argTypes:= #[st,st] })
 (base Z:Nat) (hs:a.eval s= .slice (some ⟨Z,0,none⟩) 0 0) (hZ:w.ownsRow base E.t E.s (.slice (some ⟨Z,0,none⟩) 0 0) 0 []) (xv:Value) (l:List α) (hxv:a.eval x=xv) {n0:Nat} (hx:Lst E n0 w xv l) (hf:Frm xv l.length) (hl:l.length<=100000) (hb:base<=w.heap.size)
 (h:∀v' w',w'.ownsRow base E.t E.s v' l.length (l.flatMap E.enc)->Below w.heap.size w w'->(∃g cap,v'= .slice (some ⟨g,0,none⟩) l.length cap/\(g=Z\/w.heap.size<=g))->K (a.put o.dst v') w') :
 Oper.wp P o a w K Q:=by
 obtain⟨v',w',hr,h2,h3,h4⟩:=El.append_freshO hE hI w base Z xv l o.type hZ hx hf hl hb;unfold Oper.wp execOp;simp only[ho,resolve,invoke,builtin,Sem.run_bind,Sem.run_pure,Result.andThen_ok,List.map_toArray,List.map_cons,List.map_nil,hs,hxv,hr];exact h v' w' h2 h3 h4
end
structure MapR (n0:Nat)(S:BS)(W:World)(ev fv wv pv:Value)(ne nf nw:Nat)(l:List Pc):Prop where
 e:SL S W 206 ev ne
 f:SL S W 140 fv nf
 w:SL S W 149 wv nw
 row:W.ownsRow n0 66 7 pv l.length (l.flatMap plE.enc)
 off:∀g,pv.ownBlock=some g->¬S g
def FCp (n0 BM BR nf:Nat)(ev fv wv pv:Value)(l:List Pc)(i:Nat)(v:Value)(g:BS)(w:World):Prop :=
 match i with
 |0=>SL g w 140 v 0/\Own n0 v
 |1=>v= .pointer (some ⟨BM,1,none⟩)
 |2=>v=fv
 |3=>SL g w 140 v nf/\Own n0 v
 |4=>∃Z,v= .slice (some ⟨Z,0,none⟩) 0 0/\n0<=Z/\Blk w Z #[] 66/\¬g Z
 |5=>v= .pointer (some ⟨BM,3,none⟩)
 |6=>v=pv
 |7=>w.ownsRow n0 66 7 v l.length (l.flatMap plE.enc)/\∀b,v.ownBlock=some b->¬g b
 |8=>∃a b,v= .agg #[.slice none 0 0,a,.slice none 0 0,b]/\(SL g w 140 a nf/\Own n0 a)/\w.ownsRow n0 66 7 b l.length (l.flatMap plE.enc)/\∀c,b.ownBlock=some c->¬g c
 |9=>∃L,v= .pointer (some ⟨L,0,none⟩)/\n0<=L/\BR<L/\Blk w L #[.slice none 0 0,.slice none 0 0,.slice none 0 0,.slice none 0 0] 37/\¬g L
 |_=>False
theorem FCp.kept {n0 BM BR nf:Nat}{ev fv wv pv:Value}{l:List Pc}{i:Nat}{v:Value}{g g':BS}{w w':World}(h:FCp n0 BM BR nf ev fv wv pv l i v g w)(hg:Ev noB g w g' w'):FCp n0 BM BR nf ev fv wv pv l i v g' w':=by
 unfold FCp at *;split at h
 all_goals first|exact h|(exact⟨hg.sl h.1,h.2⟩)|(obtain⟨Z,h1,h2,h3,h4⟩:=h;exact⟨Z,h1,h2,hg.blk h3 h4 (λh=>h),hg.not h3.lt h4⟩)|(exact hg.row h.1 h.2)|(obtain⟨a,b,h1,h2,h3⟩:=h;exact⟨a,b,h1,⟨hg.sl h2.1,h2.2⟩,hg.row h3.1 h3.2⟩)|(obtain⟨L,h1,h2,h3,h4,h5⟩:=h;exact⟨L,h1,h2,h3,hg.blk h4 h5 (λh=>h),hg.not h4.lt h5⟩)
theorem c6c (U:BS)(w:World)(ev fv wv pv:Value)(ne nf nw:Nat)(l:List Pc)(hI:MapI U w ev fv wv pv ne nf nw l) :
 Calls prog 76 #[.agg #[ev,fv,wv,pv]] w λe w'=>∃S' ev' fv' wv' pv',e= .returned (.agg #[ev',fv',wv',pv'])/\MapR w.heap.size S' w' ev' fv' wv' pv' ne nf nw l/\Ev noB noB w S' w':=by
 have hnf:=hI.nf;have hne:=hI.ne;have hnw:=hI.nw;have hnp:=hI.np;have h0:=(OY.init (TW.none w)).box #[ev,fv,wv,pv] 37;go_enter func76,ntmps76;go_upto_region 1 with fail;refine a0n (λW1 hW1=> ?_);have h1:=h0.box #[.slice none 0 0,.slice none 0 0,.slice none 0 0,.slice none 0 0] 37;rw[show(w.alloc (.cells #[ev,fv,wv,pv] 37)).heap.size=w.heap.size+1 from by simp,<-hW1]at h1;obtain⟨BR,hBR⟩:=zE (w.heap.size+1);obtain⟨BM,hBM⟩:=zE w.heap.size;rw[hBR,hBM]at h1;rw[hBR,hBM];have hMR:BM<BR:=oM;replace h1:=h1.swap;clear h0 hW1;refine Go.wp_region_reln 10 zM zM (λ_ g W=>OY noB w g W [(BM,#[ev,fv,wv,pv],37),(BR,#[.slice none 0 0,.slice none 0 0,.slice none 0 0,.slice none 0 0],37)] []) (λg W g' W'=>Ev noB g W g' W') (FCp w.heap.size BM BR nf ev fv wv pv l) (λ_ _ _ _ _ _ h g=>h.kept g) noB h1.drew ?_ ?_
 ·intro i o hi ho c bb g W hc hM hA hD K hK
  match i,hi,ho with
  |0,_,ho =>
   cases ho;have hE:=Ev.alloc (X:=noB) hM.tw (c4q (S:=g) (W:=W) (e:=140));go_simp;exact hK (.slice (some ⟨W.heap.size,0,none⟩) 0 0) _ _ ⟨SL.blk (.inr rfl) (Blk.new _ _ _) vM,c4w hM.size _⟩ hE (hM.evo hE ((zR _ _).alloc hM.size _))
  |1,_,ho =>
   cases ho;have f1:=a0a (v:= .pointer (some ⟨BM,0,none⟩)) (hA.at_ (k:=1) zM);go_simp;exact hK (.pointer (some ⟨BM,1,none⟩)) g W rfl (Ev.refl hM.tw) hM
  |2,_,ho =>
   cases ho;have f9:=a0a (v:= .pointer (some ⟨BM,1,none⟩)) (a0d hD 1 9 zM rfl rfl);have z0:W.cell? ⟨BM,1,none⟩=some (fv):=hM.b0.cell 1;go_simp;exact hK (fv) g W rfl (Ev.refl hM.tw) hM
  |3,_,ho =>
   cases ho;have f8:=a0d hD 0 8 zM rfl rfl;have f10:=a0a (v:=fv) (a0d hD 2 10 zM rfl rfl);exact hM.append_f (hM.old hI.tw) _ _ 33 rfl underlying33 a1l b9f rfl f8.1 f8.2 (c4v f10) (hM.oldS hI.tw hI.f) oM (λv9 S9 w9 h1 h2 h3=>hK v9 S9 w9 ⟨by have:=h1.s0;rwa [Nat.zero_add]at this,h2⟩ h3 h1.tailT)
  |4,_,ho =>
   cases ho;go_simp;have hb:Below W.heap.size W (W.alloc (.cells #[] 66)):=(zR _ _).alloc (yR _) _;exact hK (.slice (some ⟨W.heap.size,0,none⟩) 0 0) g _ ⟨_,rfl,hM.size,Blk.new _ _ _,λhs=>Nat.lt_irrefl _ (hM.tw.lt hs)⟩ (Ev.of_below hM.tw hb) (hM.up hb)
  |5,_,ho =>
   cases ho;have f1:=a0a (v:= .pointer (some ⟨BM,0,none⟩)) (hA.at_ (k:=1) zM);go_simp;exact hK (.pointer (some ⟨BM,3,none⟩)) g W rfl (Ev.refl hM.tw) hM
  |6,_,ho =>
   cases ho;have f13:=a0a (v:= .pointer (some ⟨BM,3,none⟩)) (a0d hD 5 13 zM rfl rfl);have z0:W.cell? ⟨BM,3,none⟩=some (pv):=hM.b0.cell 3;go_simp;exact hK (pv) g W rfl (Ev.refl hM.tw) hM
  |7,_,ho =>
   cases ho;have f12:=a0d hD 4 12 zM rfl rfl;have f14:=a0a (v:=pv) (a0d hD 6 14 zM rfl rfl);obtain⟨Z,h1,h2,h3,h4⟩:=f12;have hLp:Lst plE w.heap.size W pv l:=hI.p.below hM.bel;refine El.step_freshO a4f d5b _ _ qM w.heap.size Z h1 (b9a h3 h2) pv l (c4v f14) hLp hI.frm oM hM.size ?_;rintro v9 w9 hr9 hb9⟨gu,cap,rfl,hgu⟩;have hgn:¬g gu:=λhs=>hgu.elim (λe=>h4 (e▸hs)) (λh=>Nat.not_lt.2 h (hM.tw.lt hs))
   exact hK _ g w9 ⟨hr9,λb hb=>by cases hb;exact hgn⟩ (Ev.of_below hM.tw hb9) (hM.up hb9)
  |8,_,ho =>
   cases ho;have f11:=a0d hD 3 11 zM rfl rfl;have f15:=a0d hD 7 15 zM rfl rfl;obtain⟨fa,e11⟩:=zE (bb.eval (.tmp 11));obtain⟨pa,e15⟩:=zE (bb.eval (.tmp 15));rw[e11]at f11;rw[e15]at f15;have h11:=f11;have h15:=f15;obtain⟨a1,c1,rfl,-⟩:=h11.1.form;obtain⟨a2,c2,rfl,-⟩:=(a0h a4f h15.1 oM).form;have f11:=a0a e11;have f15:=a0a e15;go_simp;exact hK _ g W ⟨_,_,rfl,h11,h15⟩ (Ev.refl hM.tw) hM
  |9,_,ho =>
   cases ho;go_simp;have hb:Below W.heap.size W (W.alloc (.cells #[.slice none 0 0,.slice none 0 0,.slice none 0 0,.slice none 0 0] 37)):=(zR _ _).alloc (yR _) _;exact hK (.pointer (some ⟨W.heap.size,0,none⟩)) g _ ⟨_,rfl,hM.size,hM.b1.lt,Blk.new _ _ _,λhs=>Nat.lt_irrefl _ (hM.tw.lt hs)⟩ (Ev.of_below hM.tw hb) (hM.up hb)
  |i+10,hi,_=>exact absurd hi oM
 ·intro bb g W hM hA hall
  obtain⟨fa,pa,h16,⟨hf1,hf2⟩,hr1,hr2⟩:=(show ∃a b,bb.eval (.tmp 16)= .agg #[.slice none 0 0,a,.slice none 0 0,b]/\(SL g W 140 a nf/\Own w.heap.size a)/\W.ownsRow w.heap.size 66 7 b l.length (l.flatMap plE.enc)/\∀c,b.ownBlock=some c->¬g c from hall 8 oM _ _ rfl rfl);obtain⟨BL,h3,hL1,hL2,hL3,hL4⟩:=(show ∃L,bb.eval (.tmp 3)= .pointer (some ⟨L,0,none⟩)/\w.heap.size<=L/\BR<L/\Blk W L #[.slice none 0 0,.slice none 0 0,.slice none 0 0,.slice none 0 0] 37/\¬g L from hall 9 oM _ _ rfl rfl);have hfr:=hA.frame (rT 3 (rF 1 (rT 4 (rF 9 (rT 45 ([])))))) _ rfl zM;clear hall hA;obtain⟨f,hf⟩:∃f:Nat->Value,(λk=>bb.tmps.getD k undef)=f:=⟨_,rfl⟩;have g3:f 3= .pointer (some ⟨BL,0,none⟩):=by rw[<-hf,<-h3];rfl
  have g16:f 16= .agg #[.slice none 0 0,fa,.slice none 0 0,pa]:=by rw[<-hf,<-h16];rfl
  rw[hf]at hfr;clear hf h3 h16;subst hfr;simp only[rT,rF,a1z,g3,g16,Nat.reduceAdd];clear g3 g16;simp only[zU];clear h1;obtain⟨l0,l1,l2,l3⟩:=a1v hL3;have z0:=hL3.frozen 0;have z1:=hL3.frozen 1;have z2:=hL3.frozen 2;have z3:=hL3.frozen 3;obtain⟨fa0,fc0,rfl,hfc⟩:=hf1.form;obtain⟨pa0,pc0,rfl,hpc⟩:=(a0h a4f hr1 oM).form;have hP0:OP noB w g W [(BL,#[.slice none 0 0,.slice none 0 0,.slice none 0 0,.slice none 0 0],37),(BM,#[ev,fv,wv,pv],37),(BR,#[.slice none 0 0,.slice none 0 0,.slice none 0 0,.slice none 0 0],37)] [(140,.slice fa0 nf fc0,nf)] (.slice pa0 l.length pc0) l :=
   ⟨(hM.known hL3 hL4 hL1 uM).add hf1,hr1,hr2,by simp⟩
  clear hM hr1 hr2 hL3 hL4 hf1;go_upto_region 2 with fail;refine a0n (λW2 hW2=> ?_);have hP1:=(((hP0.put rfl rfl).put rfl rfl).put rfl rfl).put hW2 rfl;clear hW2 hP0 l0 l1 l2 l3 z0 z1 z2 z3;simp at hP1;go_wp2_with fail;go_loopw [4] (λkk wr=>∃(k:Nat) (S:BS) (e1:Value),k<=ne/\kk= .int .i64 (k:Nat)/\OP noB w S wr [(BL,#[e1,.slice fa0 nf fc0,.slice none 0 0,.slice pa0 l.length pc0],37),(BM,#[ev,fv,wv,pv],37),(BR,#[.slice none 0 0,.slice none 0 0,.slice none 0 0,.slice none 0 0],37)] [(206,e1,k),(140,.slice fa0 nf fc0,nf)] (.slice pa0 l.length pc0) l/\Own w.heap.size e1) (λkk _=>ne-(intOf kk).toNat)
  case atStart=>exact⟨0,g,.slice none 0 0,Nat.zero_le _,rfl,hP1.add (SL.nil _ _ _),b6k _⟩
  case round =>
   obtain⟨k,S,e1,hk,rfl,hP,hown⟩:=hrel;have hIk:=hI.up hP.b.bel;obtain⟨m0,m1,m2,m3⟩:=a1v hP.b.b1;by_cases hlt:k<ne
   ·have hltI:(k:Int)<(ne:Int):=oM
    obtain⟨eb,eo,ec,rfl,hec,-⟩:=hIk.e.some_ oM;obtain⟨id,ll,rr,lv,m,c0,c1,c2,c3,f0,f2,f3,hlv,hm⟩:=SL.edge hIk.tw hIk.e hlt;obtain⟨la,lc,rfl,hlc⟩:=hlv.form;have hwk:IntKind.i64.wrap ((k:Int)+1)=((k+1:Nat):Int):=by rw[a0k oM oM];omega
    go_upto_region 6 with fail;refine a0n (λWE hWE=> ?_);have hP2:=hP.box #[.int .i64 id,.slice la m lc,.int .i64 ll,.int .i64 rr] 206 jM;obtain⟨BE,hBE⟩:=zE wr.heap.size;have hUE:Below wr.heap.size wr WE:=by rw[hWE];exact(zR _ _).alloc (yR _) _
    rw[<-hWE,hBE]at hP2;rw[hBE];have hIE:=hIk.up hUE;have hlvE:=a4n hUE (λb hb=>hIk.tw.lt hb) hlv;clear hP hWE hBE c0 c1 c2 c3 m0 m1 m2 m3 hIk hlv hUE;have kE:=hP2.b.b0;have k1:=kE.cell 1;go_upto_region 7 with(first
     |(go_at_call 136;(with_reducible refine(b4u U WE hIE.tw _ m hlvE oM).mono ?_);rintro e WL⟨S3,v3,rfl,hv3,hev3⟩;obtain⟨a3,c3,rfl,hc3⟩:=hv3.form;have hP3:=hP2.evn hev3;have q1:=hP3.b.b0.cell 1;have y1:=hP3.b.b0.frozen 1))
    refine a0n (λWM hWM=> ?_);have hP4:=(hP3.add (b2u hv3)).put hWM rfl;simp at hP4;clear hP2 hP3 hWM q1 y1 hev3 hv3 hlvE kE k1 hIE;obtain⟨e10,e1c,rfl,he1c⟩:=hP4.b.s1.form;obtain⟨q0,q1,q2,q3⟩:=ed4 hP4.b.b0;have q4:WM.cell? ⟨BL,0,none⟩=some _:=hP4.b.b1.cell 0;obtain⟨HS,hHS⟩:=zE WM.heap.size;go_wp2_with (first
     |(at_builtin;refine hP4.append_n qM _ _ 32 qM underlying32 a1y qM hP4.b.s1 hown qM hHS (b2q f0 f2 f3 hP4.b.s0 hm) rfl oM ?_;intro e9 S9 W9 hP9 hown9;obtain⟨e90,e9c,rfl,he9c⟩:=hP9.b.s0.form;have y4:=hP9.b.b1.frozen 0;have q5:W9.cell? ⟨BL,0,none⟩=some _:=hP9.b.b1.cell 0))
    refine⟨⟨k+1,S9,.slice e90 (k+1) e9c,hlt,rfl,(hP9.tail.put rfl rfl).sub vM,hown9⟩,?_⟩;exact ygn
   ·have hge:((k:Int)<(ne:Int))=False:=by simp;omega
    obtain rfl:k=ne:=oM;obtain⟨ea,ec,rfl,hec⟩:=hI.e.form;obtain⟨fb,fbc,rfl,-⟩:=hI.f.form;clear hIk hP1 hL1 hL2;go_wp2_with fail;go_loopw [6] (λkk wr=>∃(j:Nat) (S:BS) (w1:Value),j<=nw/\kk= .int .i64 (j:Nat)/\OP noB w S wr [(BL,#[e1,.slice fa0 nf fc0,w1,.slice pa0 l.length pc0],37),(BM,#[.slice ea k ec,.slice fb nf fbc,wv,pv],37),(BR,#[.slice none 0 0,.slice none 0 0,.slice none 0 0,.slice none 0 0],37)] [(149,w1,j),(206,e1,k),(140,.slice fa0 nf fc0,nf)] (.slice pa0 l.length pc0) l/\Own w.heap.size w1) (λkk _=>nw-(intOf kk).toNat)
    case atStart=>exact⟨0,S,.slice none 0 0,Nat.zero_le _,rfl,hP.add (SL.nil _ _ _),b6k _⟩
    case round =>
     clear hP m0 m1 m2 m3;obtain⟨j,S,w1,hj,rfl,hP,hown⟩:=hrel;have hIk:=hI.up hP.b.bel;obtain⟨m0,m1,m2,m3⟩:=a1v hP.b.b1;by_cases hlt:j<nw
     ·have hltI:(j:Int)<(nw:Int):=oM
      obtain⟨wb,wo,wc,rfl,hwc,-⟩:=hIk.w.some_ oM;obtain⟨id,lv,m,lev,cs,ns,st,wt,ds,c0,c1,c2,c3,c4,c5,c6,c7,f0,hlv,hm,f2,f3,f4,f6,f7⟩:=SL.way hIk.tw hIk.w hlt;obtain⟨la,lc,rfl,hlc⟩:=hlv.form;have hwk:IntKind.i64.wrap ((j:Int)+1)=((j+1:Nat):Int):=by rw[a0k oM oM];omega
      go_upto_region 12 with fail;refine a0n (λWE hWE=> ?_);have hP2:=hP.box (c4u id (.slice la m lc) lev cs ns st wt ds) 149 jM;obtain⟨BE,hBE⟩:=zE wr.heap.size;have hUE:Below wr.heap.size wr WE:=by rw[hWE];exact(zR _ _).alloc (yR _) _
      rw[<-hWE,hBE]at hP2;rw[hBE];have hIE:=hIk.up hUE;have hlvE:=a4n hUE (λb hb=>hIk.tw.lt hb) hlv;clear hP hWE hBE c0 c1 c2 c3 c4 c5 c6 c7 m0 m1 m2 m3 hIk hlv hUE;have kE:=hP2.b.b0;have k1:WE.cell? ⟨BE,1,none⟩=some (.slice la m lc):=kE.cell 1;go_upto_region 13 with(first
       |(go_at_call 136;(with_reducible refine(b4u U WE hIE.tw _ m hlvE oM).mono ?_);rintro e WL⟨S3,v3,rfl,hv3,hev3⟩;obtain⟨a3,c3,rfl,hc3⟩:=hv3.form;have hP3:=hP2.evn hev3;have q1:=hP3.b.b0.cell 1;have y1:=hP3.b.b0.frozen 1))
      refine a0n (λWM hWM=> ?_);have hP4:OP _ _ _ _ ((BE,c4u id (.slice a3 m c3) lev cs ns st wt ds,_)::_) _ _ _:=(hP3.add (b2u hv3)).put hWM rfl;clear hP2 hP3 hWM q1 y1 hev3 hv3 hlvE kE k1 hIE;obtain⟨w10,w1c,rfl,hw1c⟩:=hP4.b.s1.form;obtain⟨q0,q1,q2,q3,q4,q5,q6,q7⟩:=a6n hP4.b.b0;have q8:WM.cell? ⟨BL,2,none⟩=some _:=hP4.b.b1.cell 2;obtain⟨HS,hHS⟩:=zE WM.heap.size;go_wp2_with (first
       |(at_builtin;refine hP4.append_n qM _ _ 34 qM underlying34 a4e qM hP4.b.s1 hown qM hHS (c9h f0 f2 f3 f4 f6 f7 hP4.b.s0 hm) rfl oM ?_;intro e9 S9 W9 hP9 hown9;obtain⟨e90,e9c,rfl,he9c⟩:=hP9.b.s0.form;have y4:=hP9.b.b1.frozen 2;have q5:W9.cell? ⟨BL,2,none⟩=some _:=hP9.b.b1.cell 2))
      refine⟨⟨j+1,S9,.slice e90 (j+1) e9c,hlt,rfl,(hP9.tail.put rfl rfl).sub vM,hown9⟩,?_⟩;exact ygn
     ·have hge:((j:Int)<(nw:Int))=False:=by simp;omega
      obtain rfl:j=nw:=oM;obtain⟨wa,wac,rfl,-⟩:=hI.w.form;obtain⟨e10,e1c,rfl,he1c⟩:=hP.b.s1.form;obtain⟨w10,w1c,rfl,hw1c⟩:=hP.b.s0.form;obtain⟨b0,b1,b2,b3⟩:=a1v hP.b.b0;obtain⟨r0,r1,r2,r3⟩:=a1v hP.b.b2;have z0:=hP.b.b2.frozen 0;have z1:=hP.b.b2.frozen 1;have z2:=hP.b.b2.frozen 2;have z3:=hP.b.b2.frozen 3;have hX:=((((hP.tail.swap.put (i:=0) (v:= .slice e10 k e1c) rfl rfl).put (i:=1) (v:= .slice fa0 nf fc0) rfl rfl).put (i:=2) (v:= .slice w10 j w1c) rfl rfl).put (i:=3) (v:= .slice pa0 l.length pc0) (c':= #[.slice e10 k e1c,.slice fa0 nf fc0,.slice w10 j w1c,.slice pa0 l.length pc0]) rfl rfl);clear hIk m0 m1 m3 hP hown hI;go_wp2_with fail;exact bodyPost_ret (results_cell_row qM _ _ BR 37 _ (0,0) _ qM hX.b.b0 underlying37 qM zM) rfl ⟨S,_,_,_,_,rfl,⟨hX.b.s1,hX.b.s2,hX.b.s0,hX.row,hX.off⟩,hX.b.o.ev⟩
end
section
open Go Go.RowKit Go.Shelf
theorem b2v {α:Type}{E:El α}(hE:E.Ok):∀(l:List α) (p i:Nat) (hp:p<l.length) (hi:i<E.s) (y:α) (u:Value),E.enc y=(E.enc l[p]).set i u->(l.flatMap E.enc).set (p*E.s+i) u=(l.set p y).flatMap E.enc
 |x::l,0,i,hp,hi,y,u,h=>by
  have hl:(E.enc x).length=E.s:=hE.len x;rw[List.set_cons_zero,List.flatMap_cons,List.flatMap_cons,Nat.zero_mul,Nat.zero_add,List.set_append_left _ _ oM,h];rfl
 |x::l,p+1,i,hp,hi,y,u,h=>by
  have hl:(E.enc x).length=E.s:=hE.len x;have hp':p<l.length:=by simpa using hp
  rw[List.set_cons_succ,List.flatMap_cons,List.flatMap_cons,List.set_append_right _ _ (by rw[hl,Nat.add_mul];omega),hl,show(p+1)*E.s+i-E.s=p*E.s+i from by rw[Nat.add_mul];omega];rw[b2v hE l p i hp' hi y u h]
theorem El.setRow {α:Type}{E:El α}(hE:E.Ok){W:World}{base g cap:Nat}{l:List α}(hr:W.ownsRow base E.t E.s (.slice (some ⟨g,0,none⟩) l.length cap) l.length (l.flatMap E.enc)){p i:Nat}(hp:p<l.length)(hi:i<E.s){y:α}{u:Value}(h:E.enc y=(E.enc l[p]).set i u) :
 (W.setCell ⟨g,p*E.s+i,none⟩ u).ownsRow base E.t E.s (.slice (some ⟨g,0,none⟩) l.length cap) (l.set p y).length ((l.set p y).flatMap E.enc):=by
 obtain⟨h1,⟨h2,-⟩|⟨g',cap',cur,h2,h3,h4,h5,h6,h7,h8⟩⟩:=hr
 ·cases h2
 ·cases h2
  have hk:Blk W g cur E.t:=h4;have h9:=b2v hE l p i hp hi y u h;have hlt:p*E.s+i<l.length*E.s:=by
   have:=Nat.mul_le_mul_right E.s (show p+1<=l.length by omega);rw[Nat.add_mul]at this;omega
  rw[List.length_set];refine⟨by rw[<-h9,List.length_set];exact h1,.inr ⟨g,cap,cur.setIfInBounds (p*E.s+i) u,rfl,h3,hk.set _ _,h5,h6,by rw[Array.size_setIfInBounds];exact h7,?_⟩⟩;rw[<-h9,<-h8];simp only[Array.toList_setIfInBounds];rw[List.take_set]
section
variable {α:Type}{E:El α}{P:Program}{st:TypeId}{w:World}{l:List α}
end
section
variable {S0 S S':BS}{W0 W W':World}{L:a9o}{T:SlL}{ov v:Value}{l:List Pc}
theorem OY.other {o:Option Nat}(h:OY S0 W0 S W L T)(hg:W.grownBy W' o)(ho:∀g,o=some g->¬S g/\W0.heap.size<=g/\∀p∈L,p.1≠g):OY S0 W0 S W' L T:=by
 have hsame:∀b,S b->W'.heap[b]? =W.heap[b]? :=λb hb=>hg.block b (h.tw.lt hb) (λe=>(ho b e.symm).1 hb)
 have hev:=h.o.ev.own hg (λr e=>⟨(ho r e).1,(ho r e).2.1⟩);have hbel:Below W0.heap.size W W':=Below.of_grown hg h.size (λq e=>(ho q e).2.1);have hsh:Shp S W W':=λb c e hb hc=>⟨c,(hsame b hb).trans hc,rfl⟩
 refine⟨⟨hev,λp hp=> ?_,h.o.ne,λq hq=>(h.o.sl q hq).mono (λ_ h=>h) hsh⟩,h.bel.trans hbel⟩;obtain⟨k1,k2,k3⟩:=h.o.bx p hp;exact⟨k1.kept hg (λe=>(ho p.1 e).2.2 p hp rfl),k2,k3⟩
theorem OP.offL (h:OP S0 W0 S W L T ov l):∀g,ov.ownBlock=some g->¬S g/\W0.heap.size<=g/\∀p∈L,p.1≠g:=λg hg=>by
 have h1:=(h.row.lt g hg).1;refine⟨h.off g hg,h1,λp hp e=> ?_⟩;rcases h.row.2 with⟨rfl,h3⟩|⟨g',cap,cur,rfl,h3,h4,h5⟩
 ·cases hg
 ·cases hg
  have k1:=(h.b.o.bx p hp).1;unfold Blk at k1;rw[e,h4]at k1;simp only[Option.some.injEq,Obj.cells.injEq]at k1;exact h.np p hp k1.2.1.symm
theorem OP.more {l':List Pc}(h:OP S0 W0 S W L T ov l)(hr:W'.ownsRow W0.heap.size 66 7 v l'.length (l'.flatMap plE.enc))(hg:W.grownBy W' ov.ownBlock)(hn:∀g,v.ownBlock=some g->ov.ownBlock=some g\/W.heap.size<=g):OP S0 W0 S W' L T v l':=by
 refine⟨h.b.other hg h.offL,hr,λg e hs=> ?_,h.np⟩;rcases hn g e with h1|h1
 ·exact h.off g h1 hs
 ·have:=h.b.tw.lt hs
  omega
theorem OP.setRow {g cap:Nat}(h:OP S0 W0 S W L T (.slice (some ⟨g,0,none⟩) l.length cap) l){p i:Nat}(hp:p<l.length)(hi:i<7){y:Pc}{u:Value}(he:plE.enc y=(plE.enc l[p]).set i u) :
 OP S0 W0 S (W.setCell ⟨g,p*7+i,none⟩ u) L T (.slice (some ⟨g,0,none⟩) l.length cap) (l.set p y):=by
 have:=El.setRow a4f h.row hp hi he;refine h.more (by rw[List.length_set]at this ⊢;exact this) (a0x W g _ u) (λg' e=> .inl e)
end
end
section
open Go.RowKit Go.Shelf
theorem d2v (m k:Int)(d e:Dt):c1d m d e<=k↔m<=k\/apD d e<=k:=by
 unfold c1d;split <;> omega
theorem b9g (d:Dt)(k:Int):∀(b:List Dt) (m:Int),a4j d m b<=k↔m<=k\/∃e∈b,apD d e<=k
 |[],m=>by simp[a4j]
 |e::b,m=>by
  have ih:=b9g d k b (c1d m d e);have h:a4j d m (e::b)=a4j d (c1d m d e) b:=rfl;rw[h,ih,d2v];simp only[List.mem_cons,exists_eq_or_imp,or_assoc]
theorem b9h (b:List Dt)(k:Int):∀(a:List Dt) (m:Int),a.foldl (λm d=>a4j d m b) m<=k↔m<=k\/∃d∈a,∃e∈b,apD d e<=k
 |[],m=>by simp
 |d::a,m=>by
  have ih:=b9h b k a (a4j d m b);simp only[List.foldl_cons];rw[ih,b9g];simp only[List.mem_cons,exists_eq_or_imp,or_assoc]
theorem c9j {a b:List Dt}{k:Int}:a4w a b<=k↔80<=k\/∃d∈a,∃e∈b,apD d e<=k:=b9h b k a 80
end
end Go.Proofs.YtfocdbjceedagaaGreatDoor
