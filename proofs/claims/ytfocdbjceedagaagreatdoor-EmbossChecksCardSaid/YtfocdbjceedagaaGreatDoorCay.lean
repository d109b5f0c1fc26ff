/-
  Parts.
-/
import Derived.Test.YtfocdbjceedagaaGreatDoorCav
import Derived.Test.YtfocdbjceedagaaGreatDoorCaw
import Derived.Test.YtfocdbjceedagaaGreatDoorCbi
import Derived.Test.YtfocdbjceedagaaGreatDoorCbj
import Derived.Test.YtfocdbjceedagaaGreatDoorCax
set_option linter.unusedVariables false
set_option linter.unusedSimpArgs false
set_option maxHeartbeats 8000000
set_option maxRecDepth 100000
namespace Go.Proofs.YtfocdbjceedagaaGreatDoor
open Tryz
section
open Go Go.RowKit Go.Shelf
theorem d1u (U:BS)(w:Wd)(ev fv wv pv:Vu)(ne nf nw:Nat)(l:List Pc)(hI:MapI U w ev fv wv pv ne nf nw l)(q0 q1 q2:Int)(df:fits q0)(cT:fits q1)(cU:fits q2) :
 Calls prog 31 #[.agg #[ev,fv,wv,pv],.agg (qC q0 q1 q2)] w λe w'=>∃S' jV jW pJ mJ ne' nf' nw' l',e= .returned (.agg #[jV,jW,pJ,mJ])/\MapR w.heap.size S' w' jV jW pJ mJ ne' nf' nw' l'/\OddR ne nf nw l ne' nf' nw' l'/\Ev noB noB w S' w':=by
 obtain⟨r,hr,D6⟩:∃n:Nat,q0 % 17=(n:Int)/\n<17:=⟨(q0 % 17).toNat,oM,oM⟩;match r,D6 with
 |0,_=>exact c0v U w ev fv wv pv ne nf nw l hI q0 q1 q2 df cT cU hr
 |1,_=>exact c0w U w ev fv wv pv ne nf nw l hI q0 q1 q2 df cT cU hr
 |2,_=>exact c0x U w ev fv wv pv ne nf nw l hI q0 q1 q2 df cT cU hr
 |3,_=>exact c0y U w ev fv wv pv ne nf nw l hI q0 q1 q2 df cT cU hr
 |4,_=>exact c0z U w ev fv wv pv ne nf nw l hI q0 q1 q2 df cT cU hr
 |5,_=>exact c1a U w ev fv wv pv ne nf nw l hI q0 q1 q2 df cT cU hr
 |6,_=>exact c1b U w ev fv wv pv ne nf nw l hI q0 q1 q2 df cT cU hr
 |7,_=>exact c1c U w ev fv wv pv ne nf nw l hI q0 q1 q2 df cT cU hr
 |8,_=>exact c1d U w ev fv wv pv ne nf nw l hI q0 q1 q2 df cT cU hr
 |9,_=>exact c1e U w ev fv wv pv ne nf nw l hI q0 q1 q2 df cT cU hr
 |10,_=>exact b7u U w ev fv wv pv ne nf nw l hI q0 q1 q2 df cT cU hr
 |11,_=>exact b7v U w ev fv wv pv ne nf nw l hI q0 q1 q2 df cT cU hr
 |12,_=>exact b7w U w ev fv wv pv ne nf nw l hI q0 q1 q2 df cT cU hr
 |13,_=>exact b7x U w ev fv wv pv ne nf nw l hI q0 q1 q2 df cT cU hr
 |14,_=>exact b7y U w ev fv wv pv ne nf nw l hI q0 q1 q2 df cT cU hr
 |15,_=>exact b7z U w ev fv wv pv ne nf nw l hI q0 q1 q2 df cT cU hr
 |16,_=>exact b8a U w ev fv wv pv ne nf nw l hI q0 q1 q2 df cT cU hr
 |r+17,h=>omega
end
section
open Go Go.RowKit Go.Shelf Go.Lib
structure MapOk (W:Wd)(wv pv:Vu)(l:List Pc)(ws:List Wy):Prop where
 p:Lst plE W.heap.size W pv l
 frm:Frm pv l.length
 len:l.length<=6
 ok:PlsOk l
 w:Wys W.heap.size W wv ws
 wl:ws.length<=100
 wo:∀y∈ws,fits y.id/\y.line.length<=100
theorem MapOk.up {W W':Wd}{wv pv:Vu}{l:List Pc}{ws:List Wy}(h:MapOk W wv pv l ws)(hb:Below W.heap.size W W'):MapOk W' wv pv l ws :=
 ⟨h.p.up hb,h.frm,h.len,h.ok,h.w.up hb hb.size,h.wl,h.wo⟩
theorem Ev.low30 {S':BS}{W W':Wd}(h:Ev noB noB W S' W'):Below W.heap.size W W':=h.below (λ_ h=>h.elim) (λ_ h=>h.elim) (yR _)
abbrev b0o (rv:Vu)(q0 q1 q2 b0 b1 b2 b3:Int)(r:Sh):Array Value:= #[rv,.int .i64 q0,.int .i64 q1,.int .i64 q2,.int .u8 b0,.int .u8 b1,.int .u8 b2,.int .u8 b3,.int .i64 r.ax,.int .i64 r.ay,.int .i64 r.st,.int .i64 r.w,.int .i64 r.h,.int .i64 r.g]
theorem MapI.up30 {U:BS}{W W':Wd}{ev fv wv pv:Vu}{ne nf nw:Nat}{l:List Pc}(h:MapI U W ev fv wv pv ne nf nw l)(hb:Below W.heap.size W W'):MapI U W' ev fv wv pv ne nf nw l:=by
 have aM:∀b,U b->W'.heap[b]? =W.heap[b]? :=λb hu=>hb.block b (h.tw.lt hu)
 have bO:Shp U W W':=λb c e hu hc=>⟨c,(aM b hu).trans hc,rfl⟩
 exact{ h with tw:=h.tw.of_same aM,e:=h.e.mono (λ_ h=>h) bO,f:=h.f.mono (λ_ h=>h) bO,w:=h.w.mono (λ_ h=>h) bO,p:=h.p.up hb }
def c4o (W:Wd)(B:Nat)(a b c d:Vu):World:=(((W.setCell ⟨B,0,none⟩ a).setCell ⟨B,1,none⟩ b).setCell ⟨B,2,none⟩ c).setCell ⟨B,3,none⟩ d
def c8e (W:Wd)(B:Nat)(a b c d e f:Vu):World:=(((((W.setCell ⟨B,0,none⟩ a).setCell ⟨B,1,none⟩ b).setCell ⟨B,2,none⟩ c).setCell ⟨B,3,none⟩ d).setCell ⟨B,4,none⟩ e).setCell ⟨B,5,none⟩ f
section
variable {W:Wd}{B A:Nat}{x y z u v s:Vu}{k:Array Value}{t:Td}
theorem Blk.set4 (h:Blk W B #[x,y,z,u] t)(a b c d:Vu):Blk (c4o W B a b c d) B #[a,b,c,d] t:=(((h.set 0 a).set 1 b).set 2 c).set 3 d
theorem Blk.set6 (h:Blk W B #[x,y,z,u,v,s] t)(a b c d e f:Vu):Blk (c8e W B a b c d e f) B #[a,b,c,d,e,f] t:=(((((h.set 0 a).set 1 b).set 2 c).set 3 d).set 4 e).set 5 f
theorem Blk.not4 (h:Blk W A k t)(hn:A≠B)(a b c d:Vu):Blk (c4o W B a b c d) A k t:=(((h.other hn 0 a).other hn 1 b).other hn 2 c).other hn 3 d
theorem Blk.not6 (h:Blk W A k t)(hn:A≠B)(a b c d e f:Vu):Blk (c8e W B a b c d e f) A k t:=(((((h.other hn 0 a).other hn 1 b).other hn 2 c).other hn 3 d).other hn 4 e).other hn 5 f
theorem e1p {n:Nat}{w0:Wd}(h:Below n w0 W){B:Nat}(hB:n<=B)(a b c d:Vu):Below n w0 (c4o W B a b c d):=(((h.setCell hB a).setCell hB b).setCell hB c).setCell hB d
theorem e3d {n:Nat}{w0:Wd}(h:Below n w0 W){B:Nat}(hB:n<=B)(a b c d e f:Vu):Below n w0 (c8e W B a b c d e f):=(((((h.setCell hB a).setCell hB b).setCell hB c).setCell hB d).setCell hB e).setCell hB f
end
theorem a3v {W:Wd}{b B i:Nat}{v:Vu}(h:b≠B):(W.setCell ⟨B,i,none⟩ v).heap[b]? =W.heap[b]? :=Below.heap_setCell _ _ _ _ h
theorem c6b {W W':Wd}{base:Nat}{e:Td}{s:Nat}{v:Vu}{n:Nat}{xs:List Value}(h:W.ownsRow base e s v n xs)(hs:∀b,base<=b->b<W.heap.size->W'.heap[b]? =W.heap[b]?):W'.ownsRow base e s v n xs:=by
 refine⟨h.1,h.2.imp id ?_⟩;rintro⟨g,cap,cur,e1,h1,h2,h3⟩;exact⟨g,cap,cur,e1,h1,(hs g h1 (Array.getElem?_eq_some_iff.1 h2).1).trans h2,h3⟩
structure MdR (S2:BS)(nn BM:Nat)(ea fa wa pa:Option Addr)(ne ec nf fc nw wc pn pc:Nat)(l:List Pc)(rv:Vu)(q0 q1 q2 b0 b1 b2 b3:Int)(raw:Sh)(W3 W:Wd):Prop where
 c:Blk W nn (b0o rv q0 q1 q2 b0 b1 b2 b3 raw) 30
 b:Blk W BM #[.slice ea ne ec,.slice fa nf fc,.slice wa nw wc,.slice pa pn pc] 37
 I:MapI S2 W (.slice ea ne ec) (.slice fa nf fc) (.slice wa nw wc) (.slice pa pn pc) ne nf nw l
 bel:Below W3.heap.size W3 W
 sz:W3.heap.size<=W.heap.size
 f0:fits q0
 f1:fits q1
 f2:fits q2
 h0:0<=b0/\b0<=255
 h1:0<=b1/\b1<=255
 h2:0<=b2/\b2<=255
 h3:0<=b3/\b3<=255
theorem MdR.up {S2:BS}{nn BM:Nat}{ea fa wa pa:Option Addr}{ne ec nf fc nw wc pn pc:Nat}{l:List Pc}{rv:Vu}{q0 q1 q2 b0 b1 b2 b3:Int}{raw:Sh}{W3 W W':Wd}(h:MdR S2 nn BM ea fa wa pa ne ec nf fc nw wc pn pc l rv q0 q1 q2 b0 b1 b2 b3 raw W3 W)(hb:Below W.heap.size W W'):MdR S2 nn BM ea fa wa pa ne ec nf fc nw wc pn pc l rv q0 q1 q2 b0 b1 b2 b3 raw W3 W' :=
 { h with c:=h.c.below hb h.c.lt,b:=h.b.below hb h.b.lt,I:=h.I.up30 hb,bel:=h.bel.trans (hb.mono h.sz),sz:=Nat.le_trans h.sz hb.size }
theorem d9m (s:Sh)(ws:List Wy):∀d∈wdF s ws,d.k=2:=λd hd=>by
 unfold wdF a1k at hd;obtain⟨p,-,rfl⟩:=List.mem_map.1 hd;rfl
theorem c6c {k i:Int}:∀(l:List Dt) (x:Dt),(∀d∈l,d.k=k/\d.i=i)->x.k=k->x.i=i->∀d∈a6b l x,d.k=k/\d.i=i
 |[],x,_,h1,h2=>λd hd=>by
  obtain rfl:d=x:=by simpa[a6b]using hd
  exact⟨h1,h2⟩
 |e::l,x,hl,h1,h2=>λd hd=>by
  have he:=hl e vM;have ih:=c6c l x (λd h=>hl d (by simp[h])) h1 h2;unfold a6b at hd;split at hd
  ·rcases List.mem_cons.1 hd with rfl|hd
   ·exact he
   ·exact ih d hd
  ·split at hd
   ·rcases List.mem_cons.1 hd with rfl|hd
    ·split
     ·exact⟨he.1,h2⟩
     ·exact he
    ·exact hl d (by simp[hd])
   ·rcases List.mem_cons.1 hd with rfl|hd
    ·exact⟨h1,h2⟩
    ·exact hl d hd
theorem d6k (id:Int)(ps:List a0l):∀d∈b4u id ps,d.k=3/\d.i=id:=by
 have h:∀(ps:List a0l) (l:List Dt),(∀d∈l,d.k=3/\d.i=id)->∀d∈ps.foldl (λl p=>a6b l ⟨p.1,p.2,3,id⟩) l,d.k=3/\d.i=id:=by
  intro ps;induction ps with
  |nil=>exact λl hl=>hl
  |cons p ps ih=>exact λl hl=>ih _ (c6c l _ hl rfl rfl)
 exact h ps [] vM
theorem c4p (s:Sh)(p:Pc):∀d∈(pfS s p).2,d.k=3/\d.i=p.id:=by
 unfold pfS plF;split
 ·exact d6k _ _
 ·simp
theorem c8f {g:Int}{pf:Pc->Bool×List Dt}{kf:Pc->List Ke}(wd:List Dt)(hw:∀d∈wd,d.k=2)(hk:∀p,∀d∈(pf p).2,d.k=3/\d.i=p.id)(RM:∀d∈wd,fits d.i)(qs:List Pc)(hq:∀p∈qs,fits p.id):∀x∈(a5j g pf kf wd qs).left,fits x.i:=by
 refine a4s (Q:=λqs=>(∀p∈qs,fits p.id)->∀x∈(a5j g pf kf wd qs).left,fits x.i) ?_ ?_ qs hq
 ·intro _ x hx
  simp[a5j]at hx
 ·intro qs p ih hq
  rw[a4i]
  cases ho:c9v g pf (a5j g pf kf wd qs).dots p with
  |none=>rw[a8b ho];exact ih λq h=>hq q (by simp[h])
  |some y =>
   rw[a6q ho];intro x hx;rcases List.mem_append.1 hx with h|h
   ·exact ih (λq h=>hq q (by simp[h])) x h
   ·obtain rfl:x=y:=by simpa using h
    unfold c9v at ho;split at ho
    ·obtain⟨d,hd,rfl⟩:=Option.map_eq_some_iff.1 ho
     rcases b2t _ _ d (List.mem_of_find?_eq_some hd)with h1|⟨q,nC,h1⟩
     ·exact RM d h1
     ·simp only
      rw[(hk q d h1).2];exact hq q (by simp[nC])
    ·cases ho
     exact⟨by simp,by simp⟩
theorem d7l {P:Int->Prop}:∀(l:List Dt) (x:Dt),(∀d∈l,P d.i)->P x.i->∀d∈a6b l x,P d.i
 |[],x,_,h2=>λd hd=>by
  obtain rfl:d=x:=by simpa[a6b]using hd
  exact h2
 |e::l,x,hl,h2=>λd hd=>by
  have he:=hl e vM;have ih:=d7l l x (λd h=>hl d (by simp[h])) h2;unfold a6b at hd;split at hd
  ·rcases List.mem_cons.1 hd with rfl|hd
   ·exact he
   ·exact ih d hd
  ·split at hd
   ·rcases List.mem_cons.1 hd with rfl|hd
    ·split
     ·exact h2
     ·exact he
    ·exact hl d (by simp[hd])
   ·rcases List.mem_cons.1 hd with rfl|hd
    ·exact h2
    ·exact hl d hd
theorem d1v {P:Int->Prop}(k:Int)(s:Sh):∀(cs:List (a0l×Int)) (l:List Dt),(∀c∈cs,P c.2)->(∀d∈l,P d.i)->∀d∈d4n k s cs l,P d.i
 |[],l,_,hl=>hl
 |c::cs,l,hc,hl=>by
  have h:=d1v k s cs (if onS s c.1.1 c.1.2 then a6b l ⟨c.1.1,c.1.2,k,c.2⟩else l) (λc h=>hc c (by simp[h])) (by
   split
   ·exact d7l l _ hl (hc c vM)
   ·exact hl)
  exact h
theorem d9n (s:Sh)(ws:List Wy)(h:∀y∈ws,fits y.id):∀d∈wdF s ws,fits d.i:=by
 unfold wdF;rw[a7h,<-a9z 2 s _ [] vM];refine d1v (P:=fits) 2 s _ _ ?_ ?_
 ·intro c hc
  obtain⟨y,hy,F6⟩:=List.mem_flatMap.1 hc;obtain⟨w,hw,rfl⟩:=List.mem_map.1 hy;unfold d8d at F6;split at F6
  ·obtain⟨d,-,rfl⟩:=List.mem_map.1 F6
   exact h w hw
  ·cases F6
 ·intro d hd
  have h0:(a1k 2 []).length=0:=a3z _ _;rw[List.eq_nil_of_length_eq_zero h0]at hd
  cases hd
theorem c4q {a b c d:Int}{raw:Sh}(f0:fits raw.ax)(f1:fits raw.ay):fits (a7d a b c d raw).ax/\fits (a7d a b c d raw).ay:=by
 unfold a7d;split
 ·exact⟨f0,f1⟩
 ·exact⟨⟨by simp only;omega,by simp only;omega⟩,⟨by simp only;omega,by simp only;omega⟩⟩
section
variable {α:Type}{E:El α}{W:Wd}{n0:Nat}{a:Option Addr}{cap k:Nat}{l:List α}
theorem d1w (hL:Lst E n0 W (.slice a l.length cap) l)(hF:Frm (.slice a l.length cap) l.length)(hk:k<=l.length):Lst E n0 W (.slice a k cap) (l.take k)/\Frm (.slice a k cap) (l.take k).length:=by
 refine⟨hL.take k hk,?_⟩;rw[List.length_take,Nat.min_eq_left hk];rcases hF.or with⟨rfl,h0,rfl⟩|⟨b,o,rfl⟩
 ·obtain rfl:k=0:=oM
  exact .inl rfl
 ·exact .inr ⟨b,o,cap,rfl⟩
end
section
variable {P:Program}{α:Type}{E:El α}{st:Td}
end
end
section
open Go Go.RowKit Go.Shelf Go.Lib Go.Sort
section
variable {α:Type}{E:El α}{P:Program}{st:Td}{w:Wd}{l:List α}
theorem El.step_pushL (hE:E.Ok)(hI:E.In P st){o:Oper}{a:Act}{K:Act->World->Prop}{Q:Exit->Act->World->Prop}(RN:o.guard=none)(sO xO:Operand)(ho:o.op= .call { callee:= .builtin .append,args:= #[sO,xO],argTypes:= #[st,st] })
 {base:Nat} {v:Vu} (hs:a.eval sO=v) (ae:w.ownsRow base E.t E.s v l.length (l.flatMap E.enc)) (l2:List α) {u:Vu} {n0:Nat} (hx:a.eval xO=u) (hL:Lst E n0 w u l2) (dR:0<l2.length) (aD:base<=w.heap.size) (hl:l.length+l2.length<=100000)
 (h:∀v' w',w'.ownsRow base E.t E.s v' (l++l2).length ((l++l2).flatMap E.enc)->(∃a c,v'= .slice a (l.length+l2.length) c)->w.grownBy w' v.ownBlock->Below base w w'->K (a.put o.dst v') w'):Oper.wp P o a w K Q:=by
 obtain⟨i,z,hi,hz,bu,o9,kj⟩:=hI.info;obtain⟨b,off,cap,rfl,bY,lT,-⟩:=hL.some_ dR;refine wp_append_lies w sO xO st ho base E.t i z E.s i.bytes hI.under hi hz bu rfl kj hE.pos v l.length _ hs ae ⟨b,off,none⟩ l2.length cap (l2.flatMap E.enc) hx (a0w hE l2) ?_ (a4q hE l2) dR oK (Nat.le_trans (Nat.mul_le_mul hl o9) jM) aD _ rfl ?_
 ·intro j u hj
  rw[Addr.add_lit];exact hL.flat hE j u hj
 ·intro g aI w' aj hg fD ag
  refine h _ w' ?_ ⟨_,_,rfl⟩ hg (a1l hg aD (λk e=>(ae.lt k e).1));simpa[List.flatMap_append]using aj
end
theorem Lst.single {α:Type}{E:El α}(hE:E.Ok){W:Wd}{b:Nat}{x:α}(h:Blk W b (E.enc x).toArray E.t):Lst E W.heap.size W (.slice (some ⟨b,0,none⟩) 1 1) [x]:=by
 refine⟨_,1,rfl,yR _,by simp,λj hj=> ?_⟩;have fC:j=0:=by simp at hj;omega
 subst fC;refine⟨b,0,rfl,h.lt,λi hi=> ?_⟩;simp only[Nat.zero_mul,Nat.zero_add];rw[h.cell i];simp
theorem b8b {α:Type}{s:Array α}{i j:Nat}{v:α}(d:α)(h:i≠j):(s.setIfInBounds i v).getD j d=s.getD j d:=by
 simp[Array.getD_eq_getD_getElem?,Array.getElem?_setIfInBounds,h]
abbrev stP (s:Array Bool):Nat:=if s.getD 7 false then 1 else 0
theorem d1x (s:Array Bool)(i:Nat)(h1:i≠7):stP (s.setIfInBounds i true)=stP s:=by
 unfold stP;rw[b8b false h1]
structure PzR (wr:Wd)(B5:Nat)(p:Pc)(v:Vu)(l:List Pc)(g:Nat)(W:Wd):Prop where
 bel:Below wr.heap.size wr W
 p:PlC W B5 0 p
 v:Lst plE wr.heap.size W v l
theorem PlC.up30 {W W':Wd}{b o n:Nat}{p:Pc}(h:PlC W b o p)(hb:Below n W W')(hn:b<n):PlC W' b o p :=
 ⟨(hb.cell (p:=⟨b,o,none⟩) hn).trans h.c0,(hb.cell (p:=⟨b,o+1,none⟩) hn).trans h.c1,(hb.cell (p:=⟨b,o+2,none⟩) hn).trans h.c2,(hb.cell (p:=⟨b,o+3,none⟩) hn).trans h.c3,(hb.cell (p:=⟨b,o+4,none⟩) hn).trans h.c4,(hb.cell (p:=⟨b,o+5,none⟩) hn).trans h.c5,(hb.cell (p:=⟨b,o+6,none⟩) hn).trans h.c6⟩
theorem PzR.low {wr W W':Wd}{B5:Nat}{p:Pc}{v:Vu}{l:List Pc}{g g':Nat}(h:PzR wr B5 p v l g W)(hb:Below wr.heap.size W W')(hB:B5<wr.heap.size):PzR wr B5 p v l g' W' :=
 ⟨h.bel.trans hb,h.p.up30 hb hB,h.v.below hb⟩
def FZu (wr:Wd)(oa:Option Addr)(oc n B5:Nat)(O:List Pc)(p:Pc)(i:Nat)(v:Vu)(g:Nat)(w:Wd):Prop :=
 match i with
 |0=>∃Z,v= .slice (some ⟨Z,0,none⟩) 0 0/\wr.heap.size<=Z/\(g=0->Blk w Z #[] 66)
 |1=>v= .slice oa O.length oc
 |2=>v= .int .i64 (n:Nat)
 |3=>v= .slice oa n oc
 |4=>∃gu c,v= .slice (some ⟨gu,0,none⟩) (O.take n).length c/\(g=0->w.ownsRow wr.heap.size 66 7 v (O.take n).length ((O.take n).flatMap plE.enc))
 |5=>v= .agg #[.int .i64 p.id,.int .i64 p.x,.int .i64 p.y,.string p.cls,.string p.nm,.int .i64 p.wt,.int .i64 p.ds]
 |6=>∃L,v= .slice (some ⟨L,0,none⟩) 1 1/\wr.heap.size<=L/\(g=0->Blk w L #[.int .i64 p.id,.int .i64 p.x,.int .i64 p.y,.string p.cls,.string p.nm,.int .i64 p.wt,.int .i64 p.ds] 66)
 |7=>∃gu c,v= .slice (some ⟨gu,0,none⟩) (O.take n++[p]).length c/\1<=g/\(g=1->w.ownsRow wr.heap.size 66 7 v (O.take n++[p]).length ((O.take n++[p]).flatMap plE.enc))
 |8=>v= .slice oa O.length oc
 |9=>v= .int .i64 (n:Nat)
 |10=>Lst plE wr.heap.size w v (O.drop n)/\Frm v (O.drop n).length
 |_=>False
theorem FZu.kept {wr:Wd}{oa:Option Addr}{oc n B5:Nat}{O:List Pc}{p:Pc}{i:Nat}{v:Vu}{g g':Nat}{w w':Wd}(h:FZu wr oa oc n B5 O p i v g w)(hg:g<=g'/\(g'=g->Below w.heap.size w w')/\Below wr.heap.size w w'):FZu wr oa oc n B5 O p i v g' w':=by
 unfold FZu at *;split at h
 all_goals first|exact h|(obtain⟨L,h1,h2,h3⟩:=h;exact⟨L,h1,h2,λe=>by have e0:g=0:=oM;exact(h3 e0).below (hg.2.1 oM) (h3 e0).lt⟩)|(obtain⟨gu,cap,h1,h2⟩:=h;exact⟨gu,cap,h1,λe=>by have e0:g=0:=oM;exact a0r (h2 e0) (hg.2.1 oM)⟩)|(obtain⟨gu,cap,h1,h2,h3⟩:=h;exact⟨gu,cap,h1,oM,λe=>by have e0:g=1:=oM;exact a0r (h3 e0) (hg.2.1 oM)⟩)|(exact⟨h.1.below hg.2.2,h.2⟩)
theorem d6l {W:Wd}{b n m:Nat}{a:Option Addr}{c:Nat}{v:Vu}{xs:List Value}(h:W.ownsRow b 66 7 v n xs)(e:v= .slice a m c)(hn:0<n:=by simp):∃g,a=some ⟨g,0,none⟩:=by
 rcases h.2 with⟨h1,h2⟩|⟨g,cap,cur,h1,-⟩
 ·omega
 ·rw[h1]at e
  cases e;exact⟨g,rfl⟩
theorem d9o {j:Nat}(h:j<=1000):IntKind.i64.wrap (j:Int)=(j:Int):=by rw[IntKind.wrap_i64];omega
theorem e4a {p q:Pc}(h:q.wt<p.wt\/(p.wt=q.wt/\p.id<q.id)):ltOf a1o p q=true:=(d0c p q).2 h
theorem e4b {p q:Pc}(h:¬(q.wt<p.wt\/(p.wt=q.wt/\p.id<q.id))):ltOf a1o p q=false:=(d0d p q).2 h
theorem a7m (ev fv wv pv:Vu)(l:List Pc)(w:Wd)(hL:Lst plE w.heap.size w pv l)(hF:Frm pv l.length)(hl:l.length<=900) :
 Calls prog 40 #[b3t ev fv wv pv] w λe w'=>∃v,e= .returned v/\w'.ownsRow w.heap.size 66 7 v l.length ((a0q l).flatMap plE.enc)/\Below w.heap.size w w':=by
 obtain⟨pa,pc,rfl,ie⟩:=hL.form;go_enter func40,ntmps40;go_upto_region 1 with fail;have k2:=Blk.new w #[ev,fv,wv,.slice pa l.length pc] 37;have hb:Below w.heap.size w (w.alloc (.cells #[ev,fv,wv,.slice pa l.length pc] 37)):=zC;obtain⟨W,hW⟩:=zE (w.alloc (.cells #[ev,fv,wv,.slice pa l.length pc] 37));obtain⟨BM,pK⟩:=zE w.heap.size;rw[hW]at k2 hb ⊢;have yh:=hL.up hb;rw[pK]at k2 hb ⊢;clear hW hL;go_wp2_with fail;go_loopw [3,4] (λvv kk wr=>∃k:Nat,k<=l.length/\kk= .int .i64 (k:Nat)/\Hid (wr.ownsRow W.heap.size 66 7 vv (a2e (l.take k)).length ((a2e (l.take k)).flatMap plE.enc))/\Below W.heap.size W wr) (λ_ kk _=>l.length-(intOf kk).toNat)
 case atStart=>exact⟨0,Nat.zero_le _,rfl,Lib.hid ⟨by simp[a2e],.inl ⟨rfl,by simp[a2e]⟩⟩,zR _ _⟩
 case round =>
  obtain⟨k,aR,rfl,ae,aL⟩:=hrel;have m3:wr.cell? ⟨BM,3,none⟩=some (.slice pa l.length pc):=(k2.below aL k2.lt).cell 3;have mv:=aL.size;by_cases ag:k<l.length
  ·have aA:(k:Int)<(l.length:Int):=oM
   have eB:=yh.up aL;obtain⟨b,off,cap,hv,-,gV,hc⟩:=eB.some_ oM;simp only[Value.slice.injEq,true_and]at hv;obtain⟨rfl,rfl⟩:=hv;obtain⟨p,hp⟩:=zE (l[k]);have aB:=hc k ag;rw[hp]at aB;have j3:a2e (l.take (k+1))=d7j p (a2e (l.take k)):=by rw[<-hp,<-List.take_append_getElem ag,c0k]
   have oO:(a2e (l.take k)).length=k:=by rw[c3w,List.length_take];omega
   obtain⟨O,hO⟩:=zE (a2e (l.take k));rw[hO]at ae j3 oO;have UZ:O.length<=900:=oM;obtain⟨oa,oc,rfl,Fa⟩:=(a0d a4f ae.out oM).form;have RP:Frm (.slice oa O.length oc) O.length:=a1u ae.out;obtain⟨d0,d1,d2,d3,d4,d5,d6⟩:=c1s aB;replace oO:=Lib.hid oO;clear aB hc eB hp hO;go_upto_region 6 with fail;have kP:=Blk.new wr #[.int .i64 p.id,.int .i64 p.x,.int .i64 p.y,.string p.cls,.string p.nm,.int .i64 p.wt,.int .i64 p.ds] 66;have ug:Below wr.heap.size wr (wr.alloc (.cells #[.int .i64 p.id,.int .i64 p.x,.int .i64 p.y,.string p.cls,.string p.nm,.int .i64 p.wt,.int .i64 p.ds] 66)):=(zR _ _).alloc (yR _) _;obtain⟨W9,fP⟩:=zE (wr.alloc (.cells #[.int .i64 p.id,.int .i64 p.x,.int .i64 p.y,.string p.cls,.string p.nm,.int .i64 p.wt,.int .i64 p.ds] 66));rw[fP]at kP ug ⊢;obtain⟨B5,pW⟩:=zE wr.heap.size;have bQ:=a0r ae.out ug;have gX:Below W.heap.size W W9:=aL.trans (ug.mono mv);rw[pW]at kP ⊢;have En:=a0d a4f bQ oM;replace bQ:=Lib.hid bQ;clear fP d0 d1 d2 d3 d4 d5 d6 pW m3;go_upto_block 2 with fail;go_cut [6] (λv wx=>v= .int .i64 (a2i p O O.length:Nat)/\Below W9.heap.size W9 wx)
   case first =>
    go_wp2_with fail;go_loopw [6] (λva wx=>∃j:Nat,va= .int .i64 (j:Nat)/\j<=O.length/\Hid (a2i p O j=a2i p O O.length)/\Below W9.heap.size W9 wx) (λva _=>(intOf va).toNat)
    case atStart=>exact⟨O.length,rfl,yR _,Lib.hid rfl,zR _ _⟩
    case round =>
     obtain⟨j,rfl,RQ,dR,bA⟩:=hrel;have pO:=kP.below bA kP.lt;have cw:wr.cell? ⟨B5,5,none⟩=some (.int .i64 p.wt):=pO.cell 5;have ci:wr.cell? ⟨B5,0,none⟩=some (.int .i64 p.id):=pO.cell 0;have F7:=En.up bA;have stop:(j=0\/∃h:j-1<O.length,ltOf a1o p O[j-1]=false)->a2i p O O.length=j:=λhs=>by
      rw[<-dR.out];rcases hs with rfl|⟨h1,h2⟩
      ·rfl
      ·rcases Nat.eq_zero_or_pos j with rfl|hj
       ·rfl
       ·obtain⟨i,rfl⟩:∃i,j=i+1:=⟨j-1,oM⟩
        exact a8k h1 h2
     by_cases fC:j=0
     ·subst fC
      have au:=stop (.inl rfl);clear stop dR;have hz:¬(0:Int)<((0:Nat):Int):=oM;exact yde
     ·obtain⟨i,rfl⟩:∃i,j=i+1:=⟨j-1,oM⟩
      have rk:i<O.length:=RQ;obtain⟨b2,o2,c2,ew,-,-,bK⟩:=F7.some_ oM;simp only[Value.slice.injEq,true_and]at ew;obtain⟨rfl,rfl⟩:=ew;obtain⟨q,hq⟩:=zE (O[i]);have aB:=bK i rk;rw[hq]at aB;obtain⟨qi,qw⟩:wr.cell? ⟨b2,o2+i*7,none⟩=some (.int .i64 q.id)/\wr.cell? ⟨b2,o2+i*7+5,none⟩=some (.int .i64 q.wt):=⟨aB 0 (show 0<7 by decide),aB 5 (show 5<7 by decide)⟩;have FT:IntKind.i64.wrap (i:Int)=(i:Int):=d9o oM;have AF:(i:Int)<(O.length:Int):=oM;have aT:(0:Int)<(i:Int)+1:=oM;have go:ltOf a1o p O[i]=true->a2i p O i=a2i p O O.length:=λh=>by rw[<-dR.out,a8j rk h]
      have lE:ltOf a1o p O[i]=false->a2i p O O.length=i+1:=λh=>stop (.inr ⟨rk,h⟩)
      rw[hq]at go lE;replace go:=Lib.hid go;replace lE:=Lib.hid lE;clear aB bK F7 stop dR hq;by_cases cj:q.wt<p.wt
      ·have fD:=go.out (e4a (.inl cj))
       exact yes
      ·by_cases bK:p.wt=q.wt
       ·have tX:(p.wt==q.wt)=true:=by simpa using bK
        replace bK:=Lib.hid bK;by_cases nD:p.id<q.id
        ·have fD:=go.out (e4a (.inr ⟨bK.out,nD⟩))
         exact yes
        ·have au:=lE.out (e4b (by have:=bK.out;rintro(h|h) <;> omega))
         exact yde
       ·have au:=lE.out (e4b (by rintro(h|h) <;> omega))
        exact yde
   case rest =>
   obtain⟨rfl,bA⟩:=hcut;go_upto_region 9 with fail;have hn:=b3v p O O.length;have bP:d7j p O=O.take (a2i p O O.length)++p::O.drop (a2i p O O.length):=rfl;obtain⟨n,av⟩:=zE (a2i p O O.length);rw[av]at hn bP ⊢;clear av;obtain⟨W8,jz⟩:∃X,X=wc:=⟨_,rfl⟩;subst jz;have pO:=kP.below bA kP.lt;have fQ:=pO.lt;have fR:PlC W8 B5 0 p:=⟨pO.cell 0,pO.cell 1,pO.cell 2,pO.cell 3,pO.cell 4,pO.cell 5,pO.cell 6⟩;have F7:=En.up bA;have fE:(n:Int)<=(oc:Int):=oM;have eP:(n:Int)<=(O.length:Int):=oM;have iP:(O.length:Int)<=(oc:Int):=oM;have oD:=RP;refine Go.wp_region_set 11 zM zM stP (λg X=>PzR W8 B5 p (.slice oa O.length oc) O g X) (λg w g' w'=>g<=g'/\(g'=g->Below w.heap.size w w')/\Below W8.heap.size w w') (FZu W8 oa oc n B5 O p) (λ_ _ _ _ _ _ h g=>h.kept g) ?init9 ?step9 ?tail9
   case init9=>exact⟨(zR _ _).drew,fR.up30 (zR _ _).drew fQ,F7.below (zR _ _).drew⟩
   case step9 =>
    clear bQ gX yh k2 ae kP pO fR En bA ug aL hb;intro i o hi ho s bb W inv qb lY hM hA hD K hK;have au:=d1x s;obtain⟨g,hg⟩:=zE (stP s);rw[hg]at hM hD hK au;have bu:s.size=13:=inv.size;have c4:s.getD 7 false=true->s.getD 4 false=true:=λh=>c8y inv 7 4 rfl h zM
    have h7:s.getD 7 false=false->g=0:=λh=>by
     rw[<-hg];unfold stP;rw[h];rfl
    have h4:s.getD 4 false=false->g=0:=λh=>h7 (by
     cases e:s.getD 7 false with
     |false=>rfl
     |true=>have:=c4 e;rw[h]at this;cases this)
    have dh:s.getD 7 false=false->1=stP (s.setIfInBounds 7 true):=λh=>by
     unfold stP;rw[show(s.setIfInBounds 7 true).getD 7 false=true from by simp[bu]];rfl
    replace dh:=Lib.hid dh;clear c4 hg bu inv;match i,hi,ho with
    |0,_,ho =>
     cases ho;go_simp;exact hK (.slice (some ⟨W.heap.size,0,none⟩) 0 0) g _ ⟨_,rfl,hM.bel.size,λ_=>Blk.new _ _ _⟩ ⟨yR _,λ_=>(zR _ _).alloc (yR _) _,(zR _ _).alloc hM.bel.size _⟩ (hM.low ((zR _ _).alloc hM.bel.size _) fQ) (au _ jM).symm
    |1,_,ho =>
     exact yfq
    |2,_,ho =>
     exact yfv
    |3,_,ho =>
     cases ho;have f59:=a0a (v:= .slice oa O.length oc) (a0f hD 1 59 zM rfl rfl);have f60:=a0a (v:= .int .i64 (n:Nat)) (a0f hD 2 60 zM rfl rfl);go_simp;exact hK (.slice oa n oc) g W rfl (⟨yR _,λ_=>zR _ _,zR _ _⟩) hM (au _ jM).symm
    |4,_,ho =>
     cases ho;have f58:=a0f hD 0 58 zM rfl rfl;have f61:=a0a (v:= .slice oa n oc) (a0f hD 3 61 zM rfl rfl);obtain⟨Z,h1,h2,h3⟩:=f58;have tq:=h4 qb;obtain⟨hL,hF⟩:=d1w (k:=n) hM.v oD oM;refine El.step_freshO a4f d7c _ _ qM _ Z h1 (a6u (h3 tq) h2) _ (O.take n) (b3m f61) hL hF (by rw[List.length_take];omega) hM.bel.size ?_;rintro v9 w9 aU br⟨gu,c,e9,-⟩;exact hK v9 g w9 ⟨gu,c,e9,λ_=>aU⟩ ⟨yR _,λ_=>br,br.mono hM.bel.size⟩ (hM.low (br.mono hM.bel.size) fQ) (au _ jM).symm
    |5,_,ho =>
     cases ho;have f5:=a0a (v:= .pointer (some ⟨B5,0,none⟩)) (hA.at_ (k:=5) zM);have z0:W.cell? ⟨B5,0,none⟩=some (.int .i64 p.id):=hM.p.c0;have z1:W.cell? ⟨B5,1,none⟩=some (.int .i64 p.x):=hM.p.c1;have z2:W.cell? ⟨B5,2,none⟩=some (.int .i64 p.y):=hM.p.c2;have z3:W.cell? ⟨B5,3,none⟩=some (.string p.cls):=hM.p.c3;have z4:W.cell? ⟨B5,4,none⟩=some (.string p.nm):=hM.p.c4;have z5:W.cell? ⟨B5,5,none⟩=some (.int .i64 p.wt):=hM.p.c5;have z6:W.cell? ⟨B5,6,none⟩=some (.int .i64 p.ds):=hM.p.c6;go_simp;exact hK (.agg #[.int .i64 p.id,.int .i64 p.x,.int .i64 p.y,.string p.cls,.string p.nm,.int .i64 p.wt,.int .i64 p.ds]) g W rfl (⟨yR _,λ_=>zR _ _,zR _ _⟩) hM (au _ jM).symm
    |6,_,ho =>
     cases ho;have f63:=a0a (v:= .agg #[.int .i64 p.id,.int .i64 p.x,.int .i64 p.y,.string p.cls,.string p.nm,.int .i64 p.wt,.int .i64 p.ds]) (a0f hD 5 63 zM rfl rfl);go_simp;exact hK (.slice (some ⟨W.heap.size,0,none⟩) 1 1) g _ ⟨_,rfl,hM.bel.size,λ_=>Blk.new _ _ _⟩ ⟨yR _,λ_=>(zR _ _).alloc (yR _) _,(zR _ _).alloc hM.bel.size _⟩ (hM.low ((zR _ _).alloc hM.bel.size _) fQ) (au _ jM).symm
    |7,_,ho =>
     cases ho;have f62:=a0f hD 4 62 zM rfl rfl;have f64:=a0f hD 6 64 zM rfl rfl;obtain⟨gu,c,h1,h2⟩:=f62;obtain⟨L,k1,k2,k3⟩:=f64;have tq:=h7 qb;have cK:=h2 tq;rw[h1]at cK;refine El.step_pushL a4f d7c qM _ _ qM h1 cK [p] k1 (Lst.single a4f (x:=p) (k3 tq)) vM hM.bel.size (by rw[List.length_take,List.length_singleton];omega) ?_;rintro v9 w9 aU⟨a,c,e9⟩ bD br;obtain⟨gv,RR⟩:=d6l aU e9;exact hK v9 1 w9 ⟨gv,c,by rw[e9,RR];simp,yR _,λ_=>aU⟩ ⟨oM,λe=>by omega,br⟩ (hM.low br fQ) (dh.out qb)
    |8,_,ho =>
     exact yfq
    |9,_,ho =>
     exact yfv
    |10,_,ho =>
     cases ho;have f66:=a0a (v:= .slice oa O.length oc) (a0f hD 8 66 zM rfl rfl);have f67:=a0a (v:= .int .i64 (n:Nat)) (a0f hD 9 67 zM rfl rfl);have hT:=a9o (k:=n) hM.v oD oM;go_simp;exact hK _ g W hT ⟨yR _,λ_=>zR _ _,zR _ _⟩ hM (au _ jM).symm
    |i+11,hi,_=>exact absurd hi oM
   case tail9 =>
    intro bb s W' hs hM hA ah;have fB:stP s=1:=by
     unfold stP;rw[hs 7 oM];rfl
    rw[fB]at hM ah;obtain⟨gu,c,h65,-,uu⟩:=(show ∃gu c,bb.eval (.tmp 65)= .slice (some ⟨gu,0,none⟩) (O.take n++[p]).length c/\1<=1/\(1=1->W'.ownsRow W8.heap.size 66 7 (bb.eval (.tmp 65)) (O.take n++[p]).length ((O.take n++[p]).flatMap plE.enc))from ah 7 oM _ _ rfl rfl);obtain⟨Eo,Ep⟩:=(show Lst plE W8.heap.size W' (bb.eval (.tmp 68)) (O.drop n)/\Frm (bb.eval (.tmp 68)) (O.drop n).length from ah 10 oM _ _ rfl rfl);replace uu:=uu rfl;obtain⟨RS,yY⟩:=zE (bb.eval (.tmp 68));rw[h65]at uu;rw[yY]at Eo Ep;have aC:=hA.frame (rT 58 (rF 11 (rT 2 ([])))) _ rfl zM;clear ah hA hs fB;obtain⟨f,hf⟩:=zDt bb;have M1:f 65= .slice (some ⟨gu,0,none⟩) (O.take n++[p]).length c:=by rw[<-hf,<-h65];rfl
    have M3:f 68=RS:=by rw[<-hf,<-yY];rfl
    rw[hf]at aC;clear hf h65 yY;subst aC;simp only[rT,rF,a2d,M1,M3,Nat.reduceAdd];clear M1 M3;simp only[zU];have vS:=hM.bel;have Kk:Below W9.heap.size W9 W':=bA.trans (vS.mono bA.size);have dD:(O.take n++[p]).length+(O.drop n).length<=100000:=by rw[List.length_append,List.length_take,List.length_drop,List.length_singleton];omega
    clear hM;refine El.join a4f d7c qM _ _ qM W8.heap.size qM (O.take n++[p]) uu ⟨_,_,rfl⟩ (O.drop n) qM Eo Ep dD vS.size ?_;rintro v9 w9 aU bD br⟨g9,c9,rfl⟩;rw[show O.take n++[p]++O.drop n=d7j p O by rw[bP];simp]at aU;have Kl:Below W.heap.size W w9:=gX.trans ((Kk.trans (br.mono bA.size)).mono gX.size);have rz:=a5r aU (Nat.le_trans gX.size bA.size);rw[<-j3]at rz;rw[show(O.take n++[p]++O.drop n).length=(a2e (l.take (k+1))).length by rw[j3,bP];simp];obtain⟨m,hm⟩:=zE ((a2e (l.take (k+1))).length);rw[hm]at rz ⊢;replace rz:=Lib.hid rz;replace hm:=Lib.hid hm;clear aU;go_wp2_with fail;go_roundw
    case rel=>exact⟨k+1,oM,by go_num,by rw[hm.out];exact rz,Kl⟩
    case measure=>exact yaz
  ·obtain rfl:k=l.length:=oM
   have aY:¬(l.length:Int)<(l.length:Int):=oM;go_wp2_with fail;go_ret;have bB:=ae.out;rw[List.take_length,b6d,(a0v l).length_eq]at bB;have hz:=hb.size;rw[pK]at hz;exact⟨_,rfl,a5r bB hz,hb.trans (aL.mono hz)⟩
end
section
open Go Go.RowKit Go.Shelf
variable{k:Nat}
theorem c6d (p:Pc)(hp:p.nm.size<=1000)(w:Wd):
 Calls prog 43 #[plV p] w (e0c (c8u p) w):=by
 have hW:=c3t p.nm hp;unfold c8u;obtain⟨id,x,y,cl,nm,wt,ds⟩:=p;simp only at hW ⊢;by_cases hn:nm=⟨#[]⟩
 ·subst hn
  rw[if_pos rfl];go_enter func43,ntmps43;exact ybt
 ·rw[if_neg hn]
  have av:=c5x hn;obtain⟨c,hc⟩:=zE ((a4v nm).1);obtain⟨er,Dw⟩:=zE ((a4v nm).2);rw[hc,Dw]at hW ⊢;clear hc Dw hn;by_cases h0:er=0
  ·subst h0
   rw[if_pos rfl];go_enter func43,ntmps43;go_wp2_with (go_at_call 97;refine(hW _).mono ?_;rintro e w'⟨rfl,al⟩;obtain⟨p,rfl⟩:=a0c al;clear al);exact ybx
  ·rw[if_neg h0]
   have QB:(er==0)=false:=by simpa using h0
   go_enter func43,ntmps43;go_wp2_with (go_at_call 97;refine(hW _).mono ?_;rintro e w'⟨rfl,al⟩;obtain⟨p,rfl⟩:=a0c al;clear al);exact ybz
theorem a7n (s:Sh)(ev fv wv:Vu)(pa:Option Addr)(n pc:Nat)(w:Wd):
 Zc prog 38 #[.agg #[ev,fv,wv,.slice pa n pc],shV s] w (.int .i64 (a2m s n)):=by
 unfold a2m;obtain⟨r,hr⟩:=zE (a1h s);have hC:=λw=>b6b s w
 rw[hr]at hC;rw[hr];clear hr;obtain⟨ax,ay,st,sw,sh,sg⟩:=s;by_cases h0:r=0
 ·subst h0
  rw[if_pos rfl];by_cases hn:80<n
  ·rw[if_pos hn]
   have CC:(80:Int)<(n:Int):=oM;exact ydw
  ·rw[if_neg hn]
   have CC:¬(80:Int)<(n:Int):=oM;exact ydw
 ·rw[if_neg h0]
  exact ydw
/-! the dot at a place -/
theorem a7f {α:Type}{f:α->Bool}{l:List α}(h:k<l.length)(h1:f l[k]=true)(h2:∀j (hj:j<k),f (l[j]'(Nat.lt_trans hj h))=false):l.findIdx? f=some k :=
 List.findIdx?_eq_some_iff_getElem.2 ⟨h,h1,λj hj=>by rw[h2 j hj];decide⟩
theorem a7g {α:Type}{f:α->Bool}{l:List α}(h2:∀j (hj:j<l.length),f l[j]=false):l.findIdx? f=none :=
 List.findIdx?_eq_none_iff.2 λx hx=>by
  obtain⟨j,hj,rfl⟩:=List.getElem_of_mem hx;exact h2 j hj
theorem e1q (dv kv lv:Vu)(l:List Dt)(x y:Int)(w:Wd)(hl:Lst dtE w.heap.size w dv l)(hn:l.length<=100000):
 Zc prog 17 #[a1t dv kv lv,.int .i64 x,.int .i64 y] w (e1f (l.find? (atD x y))):=by
 obtain⟨fr,aC⟩:=zE (l.find? (atD x y));rw[aC];rw[c0l]at aC;replace aC:=Lib.hid aC;obtain⟨da,dc,rfl,-⟩:=hl.form;go_enter func17,ntmps17;go_upto_region 1 with fail;have k2:=Blk.new w #[.slice da l.length dc,kv,lv] 45;have hb:Below w.heap.size w (w.alloc (.cells #[.slice da l.length dc,kv,lv] 45)):=zC;obtain⟨W,hW⟩:=zE (w.alloc (.cells #[.slice da l.length dc,kv,lv] 45));rw[hW]at k2 hb ⊢;clear hW;obtain⟨B3,aN⟩:=zE w.heap.size;rw[aN]at k2 ⊢;have iX:=hl.up hb;have m0:W.cell? ⟨B3,0,none⟩=some (.slice da l.length dc):=k2.cell 0;go_wp2_with fail;go_loopw [8] (λkk wr=>∃k:Nat,k<=l.length/\kk= .int .i64 (k:Nat)/\Below W.heap.size W wr/\Hid (∀j (hj:j<k) (h:j<l.length),atD x y l[j]=false)) (λkk _=>l.length-(intOf kk).toNat)
 case atStart=>exact yiu
 case round =>
  obtain⟨k,aR,rfl,aL,aK⟩:=hrel;clear m0;have m0:wr.cell? ⟨B3,0,none⟩=some (.slice da l.length dc):=(k2.below aL k2.lt).cell 0;by_cases ag:k<l.length
  ·have aA:(k:Int)<(l.length:Int):=oM
   have eB:=iX.up aL;obtain⟨b,off,cap,hv,-,gV,hc⟩:=eB.some_ oM;simp only[Value.slice.injEq,true_and]at hv;obtain⟨rfl,rfl⟩:=hv;have aB:=hc k ag;have aF:=Lib.hid λh:atD x y l[k]=true=>a7f ag h λj hj=>aK.out j hj oM
   have eK:=Lib.hid (List.getElem?_eq_getElem ag);have bG:=Lib.hid λh:atD x y l[k]=false=>(show ∀j (hj:j<k+1) (h:j<l.length),atD x y l[j]=false from λj hj h2=>by
    by_cases e:j=k
    ·subst e;exact h
    ·exact aK.out j oM h2)
   obtain⟨d,hd⟩:=zE (l[k]);rw[hd]at aB aF bG eK;obtain⟨e0,e1,e2,e3⟩:=d7q aB;clear aB hc hd eB;by_cases hx:d.x=x
   ·have uK:(d.x==x)=true:=by simpa using hx
    by_cases hy:d.y=y
    ·have zP:(d.y==y)=true:=by simpa using hy
     have hf:=aC.out;rw[aF.out (by simp[atD,hx,hy])]at hf;rw[show(some k).bind (λk=>l[k]?)=l[k]? from rfl,eK.out]at hf;subst hf;clear aC aF bG eK hx hy aK;go_upto_region 5 with fail;refine zR0 λp=> ?_
     go_wp2_with fail;go_ret2;exact⟨rfl,aN▸Go.below_growBy' (hb.trans (aL.mono hb.size)) (hb.trans (aL.mono hb.size)).size _⟩
    ·have zP:(d.y==y)=false:=by simpa using hy
     have iP:=Lib.hid (bG.out (by simp[atD,hy]));clear aF bG eK hx hy aK;exact ydj
   ·have uK:(d.x==x)=false:=by simpa using hx
    have iP:=Lib.hid (bG.out (by simp[atD,hx]));clear aF bG eK hx aK;exact ydj
  ·obtain rfl:k=l.length:=oM
   have aY:¬(l.length:Int)<(l.length:Int):=oM;have hf:=aC.out;rw[a7g λj hj=>aK.out j hj hj]at hf;obtain rfl:fr=none:=hf.symm;clear aC aK;go_wp2_with fail;go_ret2;exact⟨rfl,aN▸hb.trans (aL.mono hb.size)⟩
/-! dots that are too near -/
theorem b8c {W:Wd}{b off cap:Nat}{D:List Dt}(hk:k<D.length)(hb:b<W.heap.size)(hc:∀i,i<4->W.cell? ⟨b,off+k*4+i,none⟩=(a2k D[k])[i]?)(hf:fits D[k].x/\fits D[k].y):Dts W.heap.size W (.slice (some ⟨b,off+k*4,none⟩) 1 cap) [D[k]] :=
 .inr ⟨b,off+k*4,cap,rfl,hb,by simp,λd hd=>by rw[List.mem_singleton]at hd;subst hd;exact hf,λj hj=>by
  obtain rfl:j=0:=by simp at hj;omega
  exact⟨hc 0 jM,hc 1 jM,hc 2 jM,hc 3 jM⟩⟩
theorem d1y (s:Sh)(dv lv:Vu)(D L:List Dt)(id:Int)(w:Wd)(hD:Lst dtE w.heap.size w dv D)(hn:D.length<=100000)(hf:∀d∈D,fits d.x/\fits d.y)(hL:Dts w.heap.size w lv L):
 Zc prog 42 #[shV s,dv,lv,.int .i64 id] w (.int .i64 (a8n (D.findIdx? (nrP s.g L id)))):=by
 obtain⟨fr,aC⟩:=zE (D.findIdx? (nrP s.g L id));rw[aC];replace aC:=Lib.hid aC;obtain⟨da,dc,rfl,-⟩:=hD.form;go_enter func42,ntmps42;go_upto_region 1 with fail;have k2:=Blk.new w #[.int .i64 s.ax,.int .i64 s.ay,.int .i64 s.st,.int .i64 s.w,.int .i64 s.h,.int .i64 s.g] 28;have hb:Below w.heap.size w (w.alloc (.cells #[.int .i64 s.ax,.int .i64 s.ay,.int .i64 s.st,.int .i64 s.w,.int .i64 s.h,.int .i64 s.g] 28)):=zC;obtain⟨W,hW⟩:=zE (w.alloc (.cells #[.int .i64 s.ax,.int .i64 s.ay,.int .i64 s.st,.int .i64 s.w,.int .i64 s.h,.int .i64 s.g] 28));rw[hW]at k2 hb ⊢;clear hW;obtain⟨B4,bZ⟩:=zE w.heap.size;rw[bZ]at k2 ⊢;have AI:=hD.up hb;have yh:Dts W.heap.size W lv L:=(hL.below hb).mono hb.size;go_wp2_with fail;go_loopw [9] (λkk wr=>∃k:Nat,k<=D.length/\kk= .int .i64 (k:Nat)/\Below W.heap.size W wr/\Hid (∀j (hj:j<k) (h:j<D.length),nrP s.g L id D[j]=false)) (λkk _=>D.length-(intOf kk).toNat)
 case atStart=>exact yiu
 case round =>
  obtain⟨k,aR,rfl,aL,aK⟩:=hrel;by_cases ag:k<D.length
  ·have aA:(k:Int)<(D.length:Int):=oM
   have eB:=AI.up aL;obtain⟨b,off,cap,hv,bY,gV,hc⟩:=eB.some_ oM;simp only[Value.slice.injEq,true_and]at hv;obtain⟨rfl,rfl⟩:=hv;have aB:=hc k ag;have lF:=λc=>b8c (cap:=c) ag gV aB (hf _ (List.getElem_mem ag))
   have aF:=Lib.hid λh:nrP s.g L id D[k]=true=>a7f ag h λj hj=>aK.out j hj oM
   have bG:=Lib.hid λh:nrP s.g L id D[k]=false=>(show ∀j (hj:j<k+1) (h:j<D.length),nrP s.g L id D[j]=false from λj hj h2=>by
    by_cases e:j=k
    ·subst e;exact h
    ·exact aK.out j oM h2)
   obtain⟨d,hd⟩:=zE (D[k]);rw[hd]at aB aF bG;simp only[hd]at lF;obtain⟨e2,e3⟩:wr.cell? ⟨b,off+k*4+2,none⟩=some (.int .i64 d.k)/\wr.cell? ⟨b,off+k*4+3,none⟩=some (.int .i64 d.i):=⟨aB 2 (show 2<4 by decide),aB 3 (show 3<4 by decide)⟩;by_cases aj:d.k=3/\d.i=id
   ·have nC:(d.k==3)=true:=by simpa using aj.1
    have pZ:(d.i==id)=true:=by simpa using aj.2
    have iP:=Lib.hid (bG.out (by unfold nrP;rw[decide_eq_true aj.1,decide_eq_true aj.2];rfl));clear aF bG aK aB hc hd eB lF aj;exact ydj
   ·have hle:∀(p:Growth) (c:Nat),Zc prog 100 #[.slice (some ⟨b,off+k*4,none⟩) 1 c,lv] (wr.growBy p) (.int .i64 (a1x [d] L)):=λp c =>
     b0m _ _ [d] L _ (((lF c).below (Go.below_growBy wr p)).mono (Go.below_growBy wr p).size) ((((yh.below aL).mono aL.size).below (Go.below_growBy wr p)).mono (Go.below_growBy wr p).size)
    have g5:wr.cell? ⟨B4,5,none⟩=some (.int .i64 s.g):=(k2.below aL k2.lt).cell 5;have aE:IntKind.i64.wrap ((k:Int)+1)=(k:Int)+1:=a1i oM oM;have jR:(k:Int)+1<=(dc:Int):=oM;have eD:(k:Int)<=(k:Int)+1:=oM;have pB:((k:Int)+1).toNat=k+1:=oM;have Km:k+1-k=1:=oM;obtain⟨r,hr⟩:=zE (a1x [d] L);have bA:=hb.trans (aL.mono hb.size);have ic:=bA.size;have mv:=aL.size;rw[hr]at hle;have gI:nrP s.g L id d=decide (r<s.g):=by
     unfold nrP;rw[hr,show(decide (d.k=3)&&decide (d.i=id))=false by rw[Bool.and_eq_false_iff,decide_eq_false_iff_not,decide_eq_false_iff_not];omega];rfl
    clear aB hc hd eB lF aK hr;by_cases hg:r<s.g
    ·have hy:=aF.out (gI.trans (by simpa using hg))
     rw[aC.out]at hy;subst hy;clear aC aF bG gI;by_cases h3:d.k=3
     ·have nC:(d.k==3)=true:=by simpa using h3
      have pZ:(d.i==id)=false:=by simp;omega
      exact ygn
     ·have nC:(d.k==3)=false:=by simpa using h3
      exact ygn
    ·have iP:=Lib.hid (bG.out (gI.trans (by simpa using hg)))
     clear aF bG gI;by_cases h3:d.k=3
     ·have nC:(d.k==3)=true:=by simpa using h3
      have pZ:(d.i==id)=false:=by simp;omega
      exact yfa
     ·have nC:(d.k==3)=false:=by simpa using h3
      exact yfa
  ·obtain rfl:k=D.length:=oM
   have aY:¬(D.length:Int)<(D.length:Int):=oM;have hf:=aC.out;rw[a7g λj hj=>aK.out j hj hj]at hf;obtain rfl:fr=none:=hf.symm;clear aC aK;go_wp2_with fail;go_ret;exact⟨rfl,bZ▸hb.trans (aL.mono hb.size)⟩
end
section
open Go.RowKit Go.Shelf
theorem e3e (w:Wd):Zc prog 99 #[.int .u8 60] w (.agg #[.bool false,.bool false,.bool true,.bool true,.bool true,.bool true]):=by
 have q0:bits BinOp.and IntKind.u8 1 1=1:=by decide +kernel
 have q1:bits BinOp.and IntKind.u8 3 1=1:=by decide +kernel
 have q2:bits BinOp.and IntKind.u8 7 1=1:=by decide +kernel
 have q3:bits BinOp.and IntKind.u8 15 1=1:=by decide +kernel
 have q4:bits BinOp.and IntKind.u8 30 1=0:=by decide +kernel
 have q5:bits BinOp.and IntKind.u8 60 1=0:=by decide +kernel
 go_enter func99,ntmps99;go_wp2_with fail;refine wp_loop_rounds 7 ?_;(iterate 7 (rw[rounds_succ];go_wp2_with fail));exact bodyPost_ret (v:= .agg #[.bool false,.bool false,.bool true,.bool true,.bool true,.bool true]) (by simp[results,results99,go_sem]) rfl ⟨rfl,zC⟩
theorem e3f (w:Wd):Zc prog 99 #[.int .u8 26] w (.agg #[.bool false,.bool true,.bool false,.bool true,.bool true,.bool false]):=by
 have q0:bits BinOp.and IntKind.u8 0 1=0:=by decide +kernel
 have q1:bits BinOp.and IntKind.u8 1 1=1:=by decide +kernel
 have q2:bits BinOp.and IntKind.u8 3 1=1:=by decide +kernel
 have q3:bits BinOp.and IntKind.u8 6 1=0:=by decide +kernel
 have q4:bits BinOp.and IntKind.u8 13 1=1:=by decide +kernel
 have q5:bits BinOp.and IntKind.u8 26 1=0:=by decide +kernel
 go_enter func99,ntmps99;go_wp2_with fail;refine wp_loop_rounds 7 ?_;(iterate 7 (rw[rounds_succ];go_wp2_with fail));exact bodyPost_ret (v:= .agg #[.bool false,.bool true,.bool false,.bool true,.bool true,.bool false]) (by simp[results,results99,go_sem]) rfl ⟨rfl,zC⟩
theorem e4l (w:Wd):Zc prog 99 #[.int .u8 1] w (.agg #[.bool true,.bool false,.bool false,.bool false,.bool false,.bool false]):=by
 have q0:bits BinOp.and IntKind.u8 0 1=0:=by decide +kernel
 have q1:bits BinOp.and IntKind.u8 1 1=1:=by decide +kernel
 go_enter func99,ntmps99;go_wp2_with fail;refine wp_loop_rounds 7 ?_;(iterate 7 (rw[rounds_succ];go_wp2_with fail));exact bodyPost_ret (v:= .agg #[.bool true,.bool false,.bool false,.bool false,.bool false,.bool false]) (by simp[results,results99,go_sem]) rfl ⟨rfl,zC⟩
theorem e4m (w:Wd):Zc prog 99 #[.int .u8 3] w (.agg #[.bool true,.bool true,.bool false,.bool false,.bool false,.bool false]):=by
 have q0:bits BinOp.and IntKind.u8 0 1=0:=by decide +kernel
 have q1:bits BinOp.and IntKind.u8 1 1=1:=by decide +kernel
 have q2:bits BinOp.and IntKind.u8 3 1=1:=by decide +kernel
 go_enter func99,ntmps99;go_wp2_with fail;refine wp_loop_rounds 7 ?_;(iterate 7 (rw[rounds_succ];go_wp2_with fail));exact bodyPost_ret (v:= .agg #[.bool true,.bool true,.bool false,.bool false,.bool false,.bool false]) (by simp[results,results99,go_sem]) rfl ⟨rfl,zC⟩
theorem e4n (w:Wd):Zc prog 99 #[.int .u8 9] w (.agg #[.bool true,.bool false,.bool false,.bool true,.bool false,.bool false]):=by
 have q0:bits BinOp.and IntKind.u8 0 1=0:=by decide +kernel
 have q1:bits BinOp.and IntKind.u8 1 1=1:=by decide +kernel
 have q2:bits BinOp.and IntKind.u8 2 1=0:=by decide +kernel
 have q3:bits BinOp.and IntKind.u8 4 1=0:=by decide +kernel
 have q4:bits BinOp.and IntKind.u8 9 1=1:=by decide +kernel
 go_enter func99,ntmps99;go_wp2_with fail;refine wp_loop_rounds 7 ?_;(iterate 7 (rw[rounds_succ];go_wp2_with fail));exact bodyPost_ret (v:= .agg #[.bool true,.bool false,.bool false,.bool true,.bool false,.bool false]) (by simp[results,results99,go_sem]) rfl ⟨rfl,zC⟩
theorem e3g (w:Wd):Zc prog 99 #[.int .u8 25] w (.agg #[.bool true,.bool false,.bool false,.bool true,.bool true,.bool false]):=by
 have q0:bits BinOp.and IntKind.u8 0 1=0:=by decide +kernel
 have q1:bits BinOp.and IntKind.u8 1 1=1:=by decide +kernel
 have q2:bits BinOp.and IntKind.u8 3 1=1:=by decide +kernel
 have q3:bits BinOp.and IntKind.u8 6 1=0:=by decide +kernel
 have q4:bits BinOp.and IntKind.u8 12 1=0:=by decide +kernel
 have q5:bits BinOp.and IntKind.u8 25 1=1:=by decide +kernel
 go_enter func99,ntmps99;go_wp2_with fail;refine wp_loop_rounds 7 ?_;(iterate 7 (rw[rounds_succ];go_wp2_with fail));exact bodyPost_ret (v:= .agg #[.bool true,.bool false,.bool false,.bool true,.bool true,.bool false]) (by simp[results,results99,go_sem]) rfl ⟨rfl,zC⟩
theorem e3h (w:Wd):Zc prog 99 #[.int .u8 17] w (.agg #[.bool true,.bool false,.bool false,.bool false,.bool true,.bool false]):=by
 have q0:bits BinOp.and IntKind.u8 0 1=0:=by decide +kernel
 have q1:bits BinOp.and IntKind.u8 1 1=1:=by decide +kernel
 have q2:bits BinOp.and IntKind.u8 2 1=0:=by decide +kernel
 have q3:bits BinOp.and IntKind.u8 4 1=0:=by decide +kernel
 have q4:bits BinOp.and IntKind.u8 8 1=0:=by decide +kernel
 have q5:bits BinOp.and IntKind.u8 17 1=1:=by decide +kernel
 go_enter func99,ntmps99;go_wp2_with fail;refine wp_loop_rounds 7 ?_;(iterate 7 (rw[rounds_succ];go_wp2_with fail));exact bodyPost_ret (v:= .agg #[.bool true,.bool false,.bool false,.bool false,.bool true,.bool false]) (by simp[results,results99,go_sem]) rfl ⟨rfl,zC⟩
theorem e3i (w:Wd):Zc prog 99 #[.int .u8 11] w (.agg #[.bool true,.bool true,.bool false,.bool true,.bool false,.bool false]):=by
 have q0:bits BinOp.and IntKind.u8 0 1=0:=by decide +kernel
 have q1:bits BinOp.and IntKind.u8 1 1=1:=by decide +kernel
 have q2:bits BinOp.and IntKind.u8 2 1=0:=by decide +kernel
 have q3:bits BinOp.and IntKind.u8 5 1=1:=by decide +kernel
 have q4:bits BinOp.and IntKind.u8 11 1=1:=by decide +kernel
 go_enter func99,ntmps99;go_wp2_with fail;refine wp_loop_rounds 7 ?_;(iterate 7 (rw[rounds_succ];go_wp2_with fail));exact bodyPost_ret (v:= .agg #[.bool true,.bool true,.bool false,.bool true,.bool false,.bool false]) (by simp[results,results99,go_sem]) rfl ⟨rfl,zC⟩
theorem e3j (w:Wd):Zc prog 99 #[.int .u8 27] w (.agg #[.bool true,.bool true,.bool false,.bool true,.bool true,.bool false]):=by
 have q0:bits BinOp.and IntKind.u8 0 1=0:=by decide +kernel
 have q1:bits BinOp.and IntKind.u8 1 1=1:=by decide +kernel
 have q2:bits BinOp.and IntKind.u8 3 1=1:=by decide +kernel
 have q3:bits BinOp.and IntKind.u8 6 1=0:=by decide +kernel
 have q4:bits BinOp.and IntKind.u8 13 1=1:=by decide +kernel
 have q5:bits BinOp.and IntKind.u8 27 1=1:=by decide +kernel
 go_enter func99,ntmps99;go_wp2_with fail;refine wp_loop_rounds 7 ?_;(iterate 7 (rw[rounds_succ];go_wp2_with fail));exact bodyPost_ret (v:= .agg #[.bool true,.bool true,.bool false,.bool true,.bool true,.bool false]) (by simp[results,results99,go_sem]) rfl ⟨rfl,zC⟩
theorem e3k (w:Wd):Zc prog 99 #[.int .u8 19] w (.agg #[.bool true,.bool true,.bool false,.bool false,.bool true,.bool false]):=by
 have q0:bits BinOp.and IntKind.u8 0 1=0:=by decide +kernel
 have q1:bits BinOp.and IntKind.u8 1 1=1:=by decide +kernel
 have q2:bits BinOp.and IntKind.u8 2 1=0:=by decide +kernel
 have q3:bits BinOp.and IntKind.u8 4 1=0:=by decide +kernel
 have q4:bits BinOp.and IntKind.u8 9 1=1:=by decide +kernel
 have q5:bits BinOp.and IntKind.u8 19 1=1:=by decide +kernel
 go_enter func99,ntmps99;go_wp2_with fail;refine wp_loop_rounds 7 ?_;(iterate 7 (rw[rounds_succ];go_wp2_with fail));exact bodyPost_ret (v:= .agg #[.bool true,.bool true,.bool false,.bool false,.bool true,.bool false]) (by simp[results,results99,go_sem]) rfl ⟨rfl,zC⟩
theorem e3l (w:Wd):Zc prog 99 #[.int .u8 10] w (.agg #[.bool false,.bool true,.bool false,.bool true,.bool false,.bool false]):=by
 have q0:bits BinOp.and IntKind.u8 0 1=0:=by decide +kernel
 have q1:bits BinOp.and IntKind.u8 1 1=1:=by decide +kernel
 have q2:bits BinOp.and IntKind.u8 2 1=0:=by decide +kernel
 have q3:bits BinOp.and IntKind.u8 5 1=1:=by decide +kernel
 have q4:bits BinOp.and IntKind.u8 10 1=0:=by decide +kernel
 go_enter func99,ntmps99;go_wp2_with fail;refine wp_loop_rounds 7 ?_;(iterate 7 (rw[rounds_succ];go_wp2_with fail));exact bodyPost_ret (v:= .agg #[.bool false,.bool true,.bool false,.bool true,.bool false,.bool false]) (by simp[results,results99,go_sem]) rfl ⟨rfl,zC⟩
theorem e1r (c:Nat)(h:c=60\/c=26\/c=1\/c=3\/c=9\/c=25\/c=17\/c=11\/c=27\/c=19\/c=10)(w:Wd):Zc prog 99 #[.int .u8 c] w (.agg #[.bool (c5m c 0),.bool (c5m c 1),.bool (c5m c 2),.bool (c5m c 3),.bool (c5m c 4),.bool (c5m c 5)]):=by
 rcases h with rfl|rfl|rfl|rfl|rfl|rfl|rfl|rfl|rfl|rfl|rfl
 ·exact e3e w
 ·exact e3f w
 ·exact e4l w
 ·exact e4m w
 ·exact e4n w
 ·exact e3g w
 ·exact e3h w
 ·exact e3i w
 ·exact e3j w
 ·exact e3k w
 ·exact e3l w
section
variable {w W W':Wd}{B:Nat}{v:Vu}{l:List UInt8}
theorem OB.appended {g cap:Nat}{b:UInt8}(h:OB w B v l W)(hg:W.grownBy W' v.ownBlock)(aj:W'.ownsRow B 5 1 (.slice (some ⟨g,0,none⟩) (l.length+1) cap) (l.length+1) (e2a l++[.int .u8 (b.toNat:Int)])) :
 OB w B (.slice (some ⟨g,0,none⟩) (l.length+1) cap) (l++[b]) W':=by
 refine⟨?_,h.below.grown hg h.below.size (λr e=>by have:=(h.row.lt _ e).1;have:=h.wb;omega),Nat.le_trans h.lb hg.size,h.wb⟩;rw[List.length_append];simpa[e2a]using aj
end
theorem b8d {X:Wd}{P:Nat}{c:Vu}(h:Blk X P #[c] 5):∀j u,[c][j]? =some u->X.cell? ((⟨P,0,none⟩:Addr).add j)=some u:=λj u hj=>by
 rw[Go.WideShapes.add_plain,Nat.zero_add];match j,hj with
 |0,hj=>exact(h.cell 0).trans hj
 |j+1,hj=>simp at hj
theorem c1f (s:Bw):∀n,0<n->(a8m s n).length=n+1
 |1,_=>rfl
 |n+2,_=>by
  unfold a8m;rw[if_neg oM,List.length_append,c1f s (n+1) oM];rfl
theorem c1g (s:Bw)(hd:d7y s)(hl:s.size<=1000)(hz:0<s.size)(w:Wd):Zc prog 97 #[.string s] w (.tuple #[.string ⟨(a8m s s.size).toArray⟩,.int .i64 0]):=by
 obtain⟨i0,aT,bM,aW,bF⟩:=a7w;go_enter func97,ntmps97;go_wp2_with (first
  |(go_at_call 144;refine(c0d s hd oM _).mono ?_;rintro e w'⟨rfl,al⟩;obtain⟨p,rfl⟩:=a0c al;clear al))
 have hO:OB w w.heap.size (.slice none 0 0) (a8m s 0) (w.growBy p):=⟨World.ownsRow_nil _ _ _ _,zC,by simp,yR _⟩;obtain⟨W,hW⟩:=zE (w.growBy p);rw[hW]at hO ⊢;clear hW;obtain⟨B,hB⟩:=zE w.heap.size;rw[hB]at hO;replace hB:=Lib.hid hB;go_loopw [5,6] (λv k wr=>∃n:Nat,n<=s.size/\k= .int .i64 n/\OB w B v (a8m s n) wr) (λ_ k _=>s.size-(intOf k).toNat)
 case atStart=>exact⟨0,Nat.zero_le _,rfl,hO⟩
 case round =>
  clear hO;obtain⟨n,hn,rfl,hO⟩:=hrel;have rS:=b1t s n;by_cases ag:n<s.size
  ·have aA:(n:Int)<(s.size:Int):=oM
   have qU:(n:Int)<=(s.size:Int):=oM;obtain⟨d0,d1⟩:=hd n ag;have aP:a8m s (n+1)=(if n=0 then [60]else a8m s n)++[(a8u (s[n]'ag).toNat).toUInt8]:=by
    exact yjv
   have RT:(s.extract n s.size).size=s.size-n:=by rw[ByteArray.size_extract];omega
   have nX:0<(s.extract n s.size).size:=oM;have M4:((s.extract n s.size)[0]'nX).toNat<=57:=by
    rw[ByteArray.getElem_extract];exact d1
   have cD:∀X,Zc prog 145 #[.string (s.extract n s.size)] X (.int .i64 (-1)):=λX=>b1f _ nX M4 oM X
   clear M4 nX RT;obtain⟨c,hc⟩:=zE ((s[n]'ag).toNat);rw[hc]at d0 d1 aP;have sj:=c9u c;have M5:((a8u c).toUInt8.toNat:Int)=(a8u c:Nat):=by simp;omega
   have Qz:IntKind.u8.wrap ((a8u c:Nat):Int)=(a8u c:Nat):=by
    exact ydm
   by_cases fE:n=0
   ·subst fE
    simp only[if_true]at aP;replace aP:=Lib.hid aP;have Er:∀X,Zc prog 145 #[.string s] X (.int .i64 (-1)):=λX=>b1f s ag oM hl X
    have bg:=λX=>c0e s ag c hc d0 d1 hl X
    replace hc:=Lib.hid hc;go_wp2_with (first
     |(go_at_call 145;first|(with_reducible refine(cD _).mono ?_)|(with_reducible refine(Er _).mono ?_);rintro e w1⟨rfl,aw⟩)
     |(go_at_call 148;with_reducible refine(bg _).mono ?_;rintro e w2⟨B8,rfl,az,k8⟩;have U0:=k8.cell 0;have ec:=k8.cell 1))
    have kH:=((hO.up aw).up az).alloc (.cells #[.int .u8 60] 5);have kP:=Blk.new w2 #[.int .u8 60] 5;have Kn:=k8.alloc (.cells #[.int .u8 60] 5);have ae:=kH.row;have hle:=kH.lb;obtain⟨P,hP⟩:=zE w2.heap.size;rw[hP]at kP;have RU:(a8m s 0).length=0:=rfl;rw[RU]at ae;refine wp_loop_rounds 3 ?_;rw[rounds_succ];go_wp2_with (first|(at_builtin;refine wpList_append_lies _ qM _ _ _ qM B 5 i0 _ 1 1 underlying116 aT bM aW bF qM oM u5 0 _ qM ae ⟨P,0,none⟩ 1 1 [.int .u8 60] qM qM (b8d kP) (by simp[Value.oneCell']) oM oK oM hle _ rfl ?_;intro g cap W4 aj bJ bj lG)|fail);have RV:OB w B (.slice (some ⟨g,0,none⟩) 1 cap) [60] W4:=kH.appended (b:=60) bJ aj;have I0:=Kn.kept bJ (a0n kH.row Kn jM);have U1:=I0.cell 1;clear aj bJ bj lG ae hle kH kP Kn hP;have F8:=RV.alloc (.cells #[.int .u8 (a8u c:Nat)] 5);have kP:=Blk.new W4 #[.int .u8 (a8u c:Nat)] 5;have ae:=F8.row;have hle:=F8.lb;obtain⟨P5,hP⟩:=zE W4.heap.size;rw[hP]at kP;rw[rounds_succ];go_wp2_with (first|(at_builtin;refine wpList_append_lies _ qM _ _ _ qM B 5 i0 _ 1 1 underlying116 aT bM aW bF qM oM (.slice (some ⟨g,0,none⟩) 1 cap) 1 _ qM ae ⟨P5,0,none⟩ 1 1 [.int .u8 (a8u c:Nat)] qM qM (b8d kP) (by simp[Value.oneCell']) oM oK oM hle _ rfl ?_;intro g6 yZ W6 aj bJ bj lG)|fail);have Ko:OB w B (.slice (some ⟨g6,0,none⟩) 2 yZ) ([60]++[(a8u c).toUInt8]) W6:=F8.appended (b:=(a8u c).toUInt8) bJ (by rw[M5];exact aj);clear aj bJ bj lG ae hle F8 kP hP;rw[rounds_succ];go_wp2_with fail;refine⟨⟨1,oM,rfl,?_⟩,?_⟩
    ·rw[aP.out]
     exact Ko
    ·simp[intOf]
     omega
   ·have eP:0<n:=oM
    rw[if_neg fE]at aP;replace aP:=Lib.hid aP;obtain⟨e0,e1⟩:=hd (n-1) oM;have bg:=λX=>c3d s n eP ag c hc d0 d1 _ rfl e0 e1 hl X
    clear e0 e1;replace hc:=Lib.hid hc;obtain⟨l,y8⟩:=zE (a8m s n);rw[y8]at hO rS aP;clear y8;go_wp2_with (first
     |(go_at_call 145;with_reducible refine(cD _).mono ?_;rintro e w1⟨rfl,aw⟩)
     |(go_at_call 148;with_reducible refine(bg _).mono ?_;rintro e w2⟨B8,rfl,az,k8⟩;have ec:=k8.cell 0))
    have kH:=((hO.up aw).up az).alloc (.cells #[.int .u8 (a8u c:Nat)] 5);have kP:=Blk.new w2 #[.int .u8 (a8u c:Nat)] 5;have ae:=kH.row;have hle:=kH.lb;obtain⟨P,hP⟩:=zE w2.heap.size;rw[hP]at kP;refine wp_loop_rounds 2 ?_;rw[rounds_succ];go_wp2_with (first|(at_builtin;refine wpList_append_lies _ qM _ _ _ qM B 5 i0 _ 1 1 underlying116 aT bM aW bF qM oM u5 l.length _ qM ae ⟨P,0,none⟩ 1 1 [.int .u8 (a8u c:Nat)] qM qM (b8d kP) (by simp[Value.oneCell']) oM oK oM hle _ rfl ?_;intro g6 yZ W6 aj bJ bj lG)|fail);have Ko:OB w B (.slice (some ⟨g6,0,none⟩) (l.length+1) yZ) (l++[(a8u c).toUInt8]) W6:=kH.appended (b:=(a8u c).toUInt8) bJ (by rw[M5];exact aj);clear aj bJ bj lG ae hle kH kP hP;rw[rounds_succ];go_wp2_with fail;refine⟨⟨n+1,oM,by go_num,?_⟩,?_⟩
    ·rw[aP.out]
     exact Ko
    ·simp[intOf]
     omega
  ·obtain rfl:n=s.size:=oM
   have iN:=c1f s s.size hz;obtain⟨l,y8⟩:=zE (a8m s s.size);rw[y8]at hO rS iN;replace y8:=Lib.hid y8;have ae:=hO.row;obtain⟨g,cap,rfl,_,_⟩:=ae.form oM;have fL:=λsrc dst e h1 h2 h3=>run_convert_bytes_back (P:=prog) wr src dst e ⟨g,0,none⟩ cap l h1 h2 h3 (λj hj=>by
    have h5:=ae.cells (g:=g) rfl j (.int .u8 (l[j].toNat:Int)) (by simp[e2a,hj]);exact h5)
   have oQ:=fL 116 9 5 underlying116 underlying5 underlying9;clear fL ae;rw[iN]at oQ;have hb:=hO.below;clear hO;go_wp2_with fail;go_ret2;rw[y8.out];exact⟨rfl,hb⟩
theorem d6m (n:Nat)(h:n<10)(w:Wd):Zc prog 98 #[.int .i64 n] w (.string ⟨#[b6o n]⟩):=by
 have hI:(n:Int)<10:=oM;have h1:IntKind.i64.wrap (48+(n:Int))=48+n:=a0j oM oM;have h2:IntKind.u8.wrap (48+(n:Int))=48+n:=by
  exact ydm
 have fL:=λ(X:Wd) src dst e h1 h2 h3 hc=>run_convert_bytes_back (P:=prog) (X.alloc (.cells #[.int .u8 (48+(n:Int))] 5)) src dst e ⟨X.heap.size,0,none⟩ 1 [b6o n] h1 h2 h3 hc
 have oQ:=λ(X:Wd)=>fL X 116 9 5 underlying116 underlying5 underlying9 (λj hj=>by
  have:j=0:=by simp at hj;omega
  subst this;have h9:((b6o n).toNat:Int)=48+n:=by unfold b6o;simp;omega
  show _=some (Value.int .u8 ((b6o n).toNat:Int));rw[h9];exact(Blk.new X #[.int .u8 (48+(n:Int))] 5).cell 0)
 clear fL;simp only[List.length_cons,List.length_nil,Nat.zero_add]at oQ;go_enter func98,ntmps98;exact yeo
theorem c1h (n m:Nat)(txt:Bw)(h0:10<=n)(h:n<=999)(hm:n / 10=m)(bu:txt.size<=10)(w:Wd)
 (Kq:∀X,Zc prog 98 #[.int .i64 m] X (.string txt)) :
 Zc prog 98 #[.int .i64 n] w (.string (txt++⟨#[b6o n]⟩)):=by
 have hI:¬(n:Int)<10:=oM;obtain⟨r,hr⟩:∃r:Nat,n % 10=r:=⟨_,rfl⟩;have aU:r<10:=oM;have mL:(n:Int).tdiv 10=(m:Nat):=by rw[Int.tdiv_eq_ediv_of_nonneg oM];omega
 have Qh:(n:Int).tmod 10=(r:Nat):=by rw[Int.tmod_eq_emod_of_nonneg oM];omega
 have IF:(n:Int) % 10=(r:Nat):=oM;have h1:IntKind.i64.wrap (48+(r:Int))=48+r:=a0j oM oM;have U2:IntKind.i64.wrap (m:Int)=m:=a0j oM oM;have h2:IntKind.u8.wrap (48+(r:Int))=48+r:=by
  exact ydm
 have oQ:∀(X:Wd) (L:Nat),Blk X L #[.int .u8 (48+(r:Int))] 5->(convert 116 9 (.slice (some ⟨L,0,none⟩) 1 1)).run prog X= .ok (.string ⟨#[b6o n]⟩) X:=λX L hL =>
  run_convert_bytes_back (P:=prog) X 116 9 5 ⟨L,0,none⟩ 1 [b6o n] underlying116 underlying5 underlying9 (λj hj=>by
   have:j=0:=by simp at hj;omega
   subst this;have h9:((b6o n).toNat:Int)=48+r:=by unfold b6o;rw[hr];simp;omega
   show _=some (Value.int .u8 ((b6o n).toNat:Int));rw[h9];exact hL.cell 0)
 have Kr:¬9223372036854775807<txt.size+(⟨#[b6o n]⟩:ByteArray).size:=by show ¬_<txt.size+1;omega
 go_enter func98,ntmps98;go_upto_region 3 with fail;refine Go.wp_region_rel 9 zM zM (λ_ W=>Below w.heap.size w W) (λw w'=>Below w.heap.size w w') (FDec n m r txt) (λ_ _ _ _ h g=>h.kept g) (zR _ _).drew ?_ ?_
 ·clear Kr hm hr
  intro i o hi ho c bb W hc hM hA hD K hK;match i,hi,ho with
  |0,_,ho =>
   exact yic
  |1,_,ho =>
   cases ho;have f10:=a0a (v:= .int .i64 (n:Nat)) (a0b hD 0 10 zM rfl rfl);go_simp;exact hK (.int .i64 (m:Nat)) W rfl (zR _ _) hM
  |2,_,ho =>
   cases ho;have f11:=a0a (v:= .int .i64 (m:Nat)) (a0b hD 1 11 zM rfl rfl);go_simp;refine(Kq W).mono ?_;rintro e W'⟨rfl,hb⟩;go_simp;exact hK (.string txt) W' rfl hb (hM.trans (hb.mono hM.size))
  |3,_,ho =>
   exact yic
  |4,_,ho =>
   cases ho;have f13:=a0a (v:= .int .i64 (n:Nat)) (a0b hD 3 13 zM rfl rfl);go_simp;exact hK (.int .i64 (r:Nat)) W rfl (zR _ _) hM
  |5,_,ho =>
   cases ho;have f14:=a0a (v:= .int .i64 (r:Nat)) (a0b hD 4 14 zM rfl rfl);go_simp;exact hK (.int .i64 (48+(r:Nat))) W rfl (zR _ _) hM
  |6,_,ho =>
   cases ho;have f15:=a0a (v:= .int .i64 (48+(r:Nat))) (a0b hD 5 15 zM rfl rfl);go_simp;exact hK (.int .u8 (48+(r:Nat))) W rfl (zR _ _) hM
  |7,_,ho =>
   cases ho;have f16:=a0a (v:= .int .u8 (48+(r:Nat))) (a0b hD 6 16 zM rfl rfl);exact yef
  |8,_,ho =>
   cases ho;have f17:=a0b hD 7 17 zM rfl rfl;obtain⟨L,h1,h2⟩:=f17;have f17:=a0a h1;have fL:=oQ W L h2;go_simp;exact hK _ W rfl (zR _ _) hM
  |i+9,hi,_=>exact absurd hi oM
 ·intro bb W hM hA ah
  have jX:bb.eval (.tmp 12)= .string txt:=ah 2 oM _ _ rfl rfl;have jc:bb.eval (.tmp 18)= .string ⟨#[b6o n]⟩:=ah 8 oM _ _ rfl rfl;have aC:=hA.frame [T,T,T,T,T,T,T,T,T,T,F,F,F,F,F,F,F,F,F,T] _ rfl zM;clear ah hA;obtain⟨f,hf⟩:=zDt bb;have g2:f 12= .string txt:=by rw[<-hf,<-jX];rfl
  have g8:f 18= .string ⟨#[b6o n]⟩:=by rw[<-hf,<-jc];rfl
  rw[hf]at aC;clear hf jX jc;subst aC;simp only[a2d,g2,g8,Nat.reduceAdd];clear g2 g8;simp only[zU];go_wp2_with fail;go_ret;exact⟨rfl,hM⟩
theorem c8g (n:Nat)(h:n<10):a7s n=⟨#[b6o n]⟩:=by
 unfold a7s;rw[Lib.decDigits,dif_pos h];unfold b6o;rw[Nat.mod_eq_of_lt h]
theorem d1z (n:Nat)(h:¬n<10):a7s n=a7s (n / 10)++⟨#[b6o n]⟩:=by
 apply ByteArray.ext;rw[ByteArray.data_append];unfold a7s;rw[Lib.decDigits,dif_neg h];unfold b6o;simp
theorem b4d :∀(k n:Nat),n<k->n<=999->∀w,Zc prog 98 #[.int .i64 n] w (.string (a7s n))
 |0,n,h,_=>by omega
 |k+1,n,h,h9=>λw=>by
  by_cases hn:n<10
  ·rw[c8g n hn]
   exact d6m n hn w
  ·rw[d1z n hn]
   have hl:=a3j 2 (n / 10) oM;exact c1h n (n / 10) (a7s (n / 10)) oM h9 rfl (by rw[a5h];omega) w (b4d k (n / 10) oM oM)
def e1s (m:Nat)(x y:Int):Bool :=
 match m with
 |0=> !(decide (x=0)&&decide (y=0))
 |1=> !(!decide (x=0)&& !decide (y=0))
 |2=>(decide (x=0)&&decide (y=0))||(!decide (x=0)&& !decide (y=0))
 |3=>true
 |4=>decide (y=0)
 |5=>decide (x=0)
 |_=> !decide (x=0)&& !decide (y=0)
theorem d2a (m t u:Nat)(hm:m<7)(ht:t<3)(hu:u<3):e1s m ((u:Int)-1) ((t:Int)-1)=a5e m (3*t+u):=by
 have h:∀m:Nat,m<7->∀t:Nat,t<3->∀u:Nat,u<3->e1s m ((u:Int)-1) ((t:Int)-1)=a5e m (3*t+u):=by decide +kernel
 exact h m hm t ht u hu
theorem c8h (cls:Bw)(x y:Int)(m:Nat)(hm:m<7)(dD:(b1q cls.data.toList).tmod 7=m)(fF:cls.size<=1048576)(w:Wd) :
 Calls prog 96 #[.string cls,.int .i64 x,.int .i64 y] w λe w'=>e= .returned (.bool (e1s m x y))/\w=w':=by
 go_enter func96,ntmps96;go_wp2_with fail;go_loop [7,8] (λs i=>∃n:Nat,n<=cls.size/\i= .int .i64 (n:Nat)/\s= .int .i64 (b1q (cls.data.toList.take n))) (λ_ i=>cls.size-(intOf i).toNat)
 case atStart=>exact⟨0,Nat.zero_le _,rfl,rfl⟩
 case round =>
  obtain⟨n,hn,rfl,rfl⟩:=hrel;by_cases ag:n<cls.size
  ·have aA:(n:Int)<(cls.size:Int):=oM
   have hs:=c2j (cls.data.toList.take n);have dV:=b9a (cls.data.toList.take n) (cls[n]'ag);rw[<-b5g cls n ag]at dV;have h255:=(cls[n]'ag).toNat_lt;obtain⟨c,hc⟩:=zE ((cls[n]'ag).toNat);rw[hc]at dV h255;obtain⟨S,hS⟩:=zE (b1q (cls.data.toList.take n));rw[hS]at dV hs;rw[hS];have im:(cls.data.toList.take n).length<=n:=by simp;omega
   have aE:IntKind.i64.wrap (S+(c:Int))=S+c:=a0j oM oM;have gQ:IntKind.i64.wrap (c:Int)=c:=a0j oM oM;replace dV:=Lib.hid dV;clear hS hs im dD;go_wp2_with (first|(refine a0k qM 9 _ _ qM cls .i64 (n:Nat) qM qM underlying9 c oM oM (by rw[<-hc];rfl) ?_)|fail);go_round
   case rel=>exact⟨n+1,oM,by go_num,by rw[dV.out]⟩
   case measure=>simp[intOf];omega
  ·obtain rfl:n=cls.size:=oM
   have aY:¬(cls.size:Int)<(cls.size:Int):=oM;have eS:cls.data.toList.take cls.size=cls.data.toList:=List.take_of_length_le (yR _);rw[eS];obtain⟨S,hS⟩:=zE (b1q cls.data.toList);rw[hS]at dD ⊢;clear hS eS;rcases(show m=0\/m=1\/m=2\/m=3\/m=4\/m=5\/m=6 from oM)with rfl|rfl|rfl|rfl|rfl|rfl|rfl
   all_goals
    by_cases hx:x=0
    all_goals
     by_cases hy:y=0
     all_goals
      go_wp2_with fail;go_ret;exact⟨by simp[e1s,hx,hy],rfl⟩
theorem b4e {W W':Wd}(h:W.grownBy W' none)(r:Option Nat):W.grownBy W' r:=⟨h.os,h.tape,h.output,h.size,λk hk _=>h.block k hk vM⟩
theorem b6e (x:Dt)(l2:List Dt):∀(l1:List Dt),(∀d∈l1,ltS (d.x,d.y) (x.x,x.y)=true)->a6b (l1++l2) x=l1++a6b l2 x
 |[],_=>rfl
 |d::l1,h=>by
  rw[List.cons_append,a6b,if_pos (h d List.mem_cons_self),b6e x l2 l1 (λe he=>h e (List.mem_cons_of_mem _ he)),List.cons_append]
theorem c4r {l:List Dt}{x:Dt}{k:Nat}(hk:k<=l.length)(ag:∀j,(h:j<k)->ltS ((l[j]'(by omega)).x,(l[j]'(by omega)).y) (x.x,x.y)=true):a6b l x=l.take k++a6b (l.drop k) x:=by
 have h:=b6e x (l.drop k) (l.take k) (λd hd=>by
  obtain⟨j,hj,rfl⟩:=List.getElem_of_mem hd;rw[List.getElem_take];exact ag j (by simp at hj;omega))
 rwa [List.take_append_drop]at h
theorem d6n {l:List Dt}{x:Dt}(ag:∀j,(h:j<l.length)->ltS ((l[j]).x,(l[j]).y) (x.x,x.y)=true):a6b l x=l++[x]:=by
 have h:=c4r (l:=l) (x:=x) (k:=l.length) (yR _) ag;rw[h];simp[a6b]
theorem d9p {l:List Dt}{x:Dt}{k:Nat}(hk:k<l.length)(ag:∀j,(h:j<k)->ltS ((l[j]'(by omega)).x,(l[j]'(by omega)).y) (x.x,x.y)=true)(aY:ltS (l[k].x,l[k].y) (x.x,x.y)=false)(av:¬(l[k].x=x.x/\l[k].y=x.y)) :
 a6b l x=l.take k++x::l.drop k:=by
 rw[c4r (Nat.le_of_lt hk) ag,List.drop_eq_getElem_cons hk,a6b,if_neg (by rw[aY];decide),if_neg (λe=>av (by simpa using e))]
theorem d2b {l:List Dt}{x:Dt}{k:Nat}(hk:k<l.length)(ag:∀j,(h:j<k)->ltS ((l[j]'(by omega)).x,(l[j]'(by omega)).y) (x.x,x.y)=true)(hx:l[k].x=x.x)(hy:l[k].y=x.y) :
 a6b l x=if x.i<l[k].i then l.set k ⟨x.x,x.y,l[k].k,x.i⟩else l:=by
 rw[c4r (Nat.le_of_lt hk) ag,List.drop_eq_getElem_cons hk,a6b,if_neg (by rw[hx,hy,a4j];decide),if_pos (by rw[hx,hy])];split
 ·rw[List.set_eq_take_append_cons_drop,if_pos hk,hx,hy]
 ·rw[<-List.drop_eq_getElem_cons hk,List.take_append_drop]
theorem d9q (a b c d:Int):ltS (a,b) (c,d)=(decide (b<d)||(decide (b=d)&&decide (a<c))):=by
 unfold ltS;simp
theorem d6o (l:List Dt)(k:Nat)(v:Int)(h:k<l.length):(l.flatMap a2k).set (k*4+3) (.int .i64 v)=(l.set k ⟨l[k].x,l[k].y,l[k].k,v⟩).flatMap a2k:=by
 induction l generalizing k with
 |nil=>simp at h
 |cons d l ih =>
  match k,h with
  |0,_=>simp
  |k+1,h =>
   have ih:=ih k (by simpa using h);have e:(k+1)*4+3=(a2k d).length+(k*4+3):=by simp;omega
   rw[List.flatMap_cons,e,List.set_append,if_neg oM,Nat.add_sub_cancel_left,ih];simp
end
section
open Go.RowKit Go.Shelf
theorem b8e {α:Type}(f:α->List Value)(s:Nat)(hf:∀x,(f x).length=s):∀(l:List α) (j i:Nat) (h:j<l.length),i<s->(l.flatMap f)[j*s+i]? =(f l[j])[i]?
 |[],j,i,h,_=>by simp at h
 |x::l,0,i,_,hi=>by
  rw[List.flatMap_cons,Nat.zero_mul,Nat.zero_add,List.getElem?_append_left (by rw[hf];exact hi)];rfl
 |x::l,j+1,i,h,hi=>by
  have ih:=b8e f s hf l j i (by simpa using h) hi;rw[List.flatMap_cons,List.getElem?_append_right (by rw[hf,Nat.succ_mul];omega),hf,show(j+1)*s+i-s=j*s+i from by rw[Nat.succ_mul];omega,ih];rfl
theorem b6f {base:Nat}{W:Wd}{v:Vu}{ps:List a0l}(h:W.ownsRow base 26 2 v ps.length (ps.flatMap a6j)):Pts W.heap.size W v ps:=by
 rcases h.2 with⟨rfl,h0⟩|⟨g,cap,cur,rfl,aD,ik,_⟩
 ·rw[List.eq_nil_of_length_eq_zero h0]
  exact⟨none,0,rfl,λj hj=>by simp at hj⟩
 ·refine⟨_,cap,rfl,λj hj=>⟨g,0,rfl,(Array.getElem?_eq_some_iff.1 ik).1,?_,?_⟩⟩
  ·have h1:=b8e a6j 2 (λ_=>rfl) ps j 0 hj oM
   rw[Nat.zero_add];exact(h.cellAt (j*2) oM).trans h1
  ·have h1:=b8e a6j 2 (λ_=>rfl) ps j 1 hj oM
   rw[Nat.zero_add];exact(h.cellAt (j*2+1) oM).trans h1
variable {n₀ K:Nat}{w W W':Wd}{sv v:Vu}{xs:List Int}{ys:List Wy}
variable {B:Nat}{id lvl wt:Int}{lv:Vu}{stb:Bool}{ps:List a0l}
end
end Go.Proofs.YtfocdbjceedagaaGreatDoor
namespace Go.Proofs.YtfocdbjceedagaaGreatDoor
open Go.RowKit Go.Shelf
theorem c6e (n r:Int)(w:Wd)(hr:max n (-n)=r)(h0 : -4611686018427387904<=n)(h1:n<=4611686018427387904) :
 Calls Tryz.prog 142 #[.int .i64 n] w λe w'=>e= .returned (.int .i64 r)/\w=w':=by
 subst hr;have hw:IntKind.i64.wrap (-n) = -n:=a0j oM oM;go_enter Tryz.func142,Tryz.ntmps142;go_wp2_with fail;go_ret;exact⟨rfl,rfl⟩
def a7u (a b:a0l):List a0l:=b8k (λk=>a2z a b k) (a3i a b+1).toNat
theorem d9r (a b:a0l):max (max (b.1-a.1) (-(b.1-a.1))) (max (b.2-a.2) (-(b.2-a.2)))=a3i a b:=by
 unfold a3i c8t mx;repeat' split
 all_goals omega
theorem a7o {a b:a0l}(ha:Near5 a)(hb:Near5 b):0<=a3i a b/\a3i a b<=200000:=by
 obtain⟨a0,a1,a2,a3⟩:=ha;obtain⟨b0,b1,b2,b3⟩:=hb;refine⟨?_,c2a oM oM oM oM⟩;have:=c9n (b.1-a.1) (-(b.1-a.1)) (b.2-a.2) (-(b.2-a.2));unfold a3i;omega
theorem b0p {a b M:Int}(hb:1<=b)(hM:0<=M)(h0 : -M<=a)(h1:a<=M) : -M<=a / b/\a / b<=M:=by
 have h2:=Int.mul_le_mul_of_nonneg_left hb hM;rw[Int.mul_one]at h2;refine⟨Int.le_ediv_of_mul_le oM ?_,Int.ediv_le_of_le_mul oM oM⟩;rw[Int.neg_mul];omega
theorem c4s {a b:Int}(a0:0<=a)(a1:a<=400000)(b0 : -200000<=b)(b1:b<=200000) : -80000000000<=a*b/\a*b<=80000000000:=by
 have h1:=Int.mul_le_mul_of_nonneg_left b1 a0;have h2:=Int.mul_le_mul_of_nonneg_left b0 a0;omega
section
variable {w W W':Wd}{B2 B3 base:Nat}{ax ay bx by_:Int}{lv:Vu}{l:List a0l}
theorem LN.a0 (h:LN w B2 B3 base ax ay bx by_ lv l W):W.cell? ⟨B2,0,none⟩=some (.int .i64 ax):=h.k2.cell 0
theorem LN.a1 (h:LN w B2 B3 base ax ay bx by_ lv l W):W.cell? ⟨B2,1,none⟩=some (.int .i64 ay):=h.k2.cell 1
theorem LN.appended {g cap:Nat}{p:a0l}(h:LN w B2 B3 base ax ay bx by_ lv l W)(hg:W.grownBy W' lv.ownBlock)(aj:W'.ownsRow base 26 2 (.slice (some ⟨g,0,none⟩) (l.length+1) cap) (l.length+1) (l.flatMap a6j++a6j p)) :
 LN w B2 B3 base ax ay bx by_ (.slice (some ⟨g,0,none⟩) (l.length+1) cap) (l++[p]) W':=by
 have av:∀B,B<base->lv.ownBlock≠some B:=λB hB e=>by have:=(h.row.lt _ e).1;omega
 refine⟨h.k2.kept hg (av _ h.l2),h.k3.kept hg (av _ h.l3),h.l2,h.l3,h.lw,?_,h.below.grown hg h.below.size (λr e=>by have:=(h.row.lt _ e).1;have:=h.lw;omega),Nat.le_trans h.lb hg.size⟩;rw[List.length_append,List.flatMap_append];simpa using aj
end
theorem d9s {X:Wd}{P:Nat}{x y:Int}(h:Blk X P #[.int .i64 x,.int .i64 y] 26):∀j u,(a6j (x,y))[j]? =some u->X.cell? ((⟨P,0,none⟩:Addr).add j)=some u:=λj u hj=>by
 rw[Go.WideShapes.add_plain,Nat.zero_add];match j,hj with
 |0,hj=>exact(h.cell 0).trans hj
 |1,hj=>exact(h.cell 1).trans hj
 |j+2,hj=>simp at hj
theorem b6g :(Tryz.prog.info? 26).map (λi=>(i.zero,i.size,i.bytes))=some (some (.agg #[.int .i64 0,.int .i64 0]),2,16):=by kernel_rfl
theorem d6p {X:Wd}{L base:Nat}{x y:Int}(h:Blk X L #[.int .i64 x,.int .i64 y] 26)(hb:base<=L):X.ownsRow base 26 2 (.slice (some ⟨L,0,none⟩) 1 1) 1 [.int .i64 x,.int .i64 y] :=
 ⟨rfl,.inr ⟨L,1,_,rfl,hb,h,yR _,by unfold maxLen;omega,rfl,rfl⟩⟩
theorem d2c (a b:a0l)(w:Wd)(ha:Near5 a)(hb:Near5 b) :
 Calls Tryz.prog 91 #[.agg #[.int .i64 a.1,.int .i64 a.2],.agg #[.int .i64 b.1,.int .i64 b.2]] w λe w'=>∃v base,e= .returned v/\w.heap.size<=base/\w'.ownsRow base 26 2 v (a7u a b).length ((a7u a b).flatMap a6j)/\Below w.heap.size w w':=by
 obtain⟨N0,N1⟩:=a7o ha hb;have hN:=d9r a b;obtain⟨ax,ay⟩:=a;obtain⟨bx,by_⟩:=b;obtain⟨a0,a1,a2,a3⟩:=ha;obtain⟨b0,b1,b2,b3⟩:=hb;simp only at a0 a1 a2 a3 b0 b1 b2 b3 hN;obtain⟨N,tA⟩:=zE (a3i (ax,ay) (bx,by_));rw[tA]at hN N0 N1;obtain⟨i0,aT,bM,aW,bF⟩:=info_parts b6g;obtain⟨mX,Es⟩:=zE (max (bx-ax) (-(bx-ax)));obtain⟨mY,Et⟩:=zE (max (by_-ay) (-(by_-ay)));rw[Es,Et]at hN;have q1:IntKind.i64.wrap (bx-ax)=bx-ax:=a0j oM oM;have q2:IntKind.i64.wrap (by_-ay)=by_-ay:=a0j oM oM;go_enter Tryz.func91,Tryz.ntmps91;go_wp2_with fail;first|with_reducible refine a0h 12 zM zM ?_|with_reducible refine a0i 12 zM zM ?_
 simp only[zT];repeat(first|go_big_quiet_step (first|(go_at_call 142;exact Calls.grow_of_same (c6e _ _ _ (by first|with_reducible exact Es|with_reducible exact Et) oM oM))|fail)|quiet_step (first|(go_at_call 142;exact Calls.grow_of_same (c6e _ _ _ (by first|with_reducible exact Es|with_reducible exact Et) oM oM))|fail))
 refine wpQuiet_nil ?_;intro _ bh;obtain⟨p,bh⟩:=bh;subst bh;replace Es:=Lib.hid Es;replace Et:=Lib.hid Et;by_cases hz:N=0
 ·subst hz
  have RW:a7u (ax,ay) (bx,by_)=[(ax,ay)]:=by
   unfold a7u a2z;rw[tA];rfl
  go_wp2_with fail;have kL:=Blk.new (((w.alloc (.cells #[.int .i64 ax,.int .i64 ay] 26)).alloc (.cells #[.int .i64 bx,.int .i64 by_] 26)).growBy p) #[.int .i64 ax,.int .i64 ay] 26;simp only[World.size_alloc,World.size_growBy]at kL;have ae:=d6p (base:=w.heap.size) kL oM;go_ret;rw[RW];exact⟨_,w.heap.size,rfl,yR _,ae,zC⟩
 ·have RX:0<N:=oM
  have OS:(N==0)=false:=by simpa using hz
  go_wp2_with fail;have k2:=((Blk.new w #[.int .i64 ax,.int .i64 ay] 26).alloc (.cells #[.int .i64 bx,.int .i64 by_] 26)).grow p;have k3:=(Blk.new (w.alloc (.cells #[.int .i64 ax,.int .i64 ay] 26)) #[.int .i64 bx,.int .i64 by_] 26).grow p;rw[World.size_alloc]at k3;have hB:Below w.heap.size w (((w.alloc (.cells #[.int .i64 ax,.int .i64 ay] 26)).alloc (.cells #[.int .i64 bx,.int .i64 by_] 26)).growBy p):=zC;obtain⟨W0,eA⟩:=zE ((((w.alloc (.cells #[.int .i64 ax,.int .i64 ay] 26)).alloc (.cells #[.int .i64 bx,.int .i64 by_] 26)).growBy p));rw[eA]at k2 k3 hB ⊢;clear eA;have Ks:LN w w.heap.size (w.heap.size+1) W0.heap.size ax ay bx by_ (.slice none 0 0) [] W0:=⟨k2,k3,k2.lt,k3.lt,hB.size,World.ownsRow_nil _ _ _ _,hB,yR _⟩;clear k2 k3 hB;obtain⟨B3,aN⟩:=zE (w.heap.size+1);obtain⟨B2,aG⟩:=zE w.heap.size;rw[aN,aG]at Ks ⊢;replace aG:=Lib.hid aG;clear aN;go_loopw [6,7] (λv i wr=>∃t:Nat,(t:Int)<=N+1/\i= .int .i64 (t:Nat)/\LN w B2 B3 W0.heap.size ax ay bx by_ v (b8k (λk=>a2z (ax,ay) (bx,by_) k) t) wr) (λ_ i _=>(N+1).toNat-(intOf i).toNat)
  case atStart=>exact⟨0,oM,rfl,by simpa[b8k]using Ks⟩
  case round =>
   clear Ks;obtain⟨t,ht,rfl,hM⟩:=hrel;by_cases ag:(t:Int)<=N
   ·have rA:∀d,-200000<=d->d<=200000 -> -80000000000<=(2*(t:Int))*d/\(2*(t:Int))*d<=80000000000:=λd h0 h1=>c4s oM oM h0 h1
    obtain⟨X0,X1⟩:=rA (bx-ax) oM oM;obtain⟨Y0,Y1⟩:=rA (by_-ay) oM oM;have bj:a2z (ax,ay) (bx,by_) t=(ax+(2*t*(bx-ax)+N) / (2*N),ay+(2*t*(by_-ay)+N) / (2*N)):=a9u tA RX;have dJ:b8k (λk:Nat=>a2z (ax,ay) (bx,by_) k) (t+1)=b8k (λk:Nat=>a2z (ax,ay) (bx,by_) k) t++[a2z (ax,ay) (bx,by_) t]:=b8x _ t;rw[bj]at dJ;obtain⟨RY,RZ⟩:=b0p (a:=2*t*(bx-ax)+N) (b:=2*N) (M:=100000000000) oM oM oM oM;obtain⟨R0,R1⟩:=b0p (a:=2*t*(by_-ay)+N) (b:=2*N) (M:=100000000000) oM oM oM oM;have R2:=λW=>a9i (a:=2*t*(bx-ax)+N) (b:=2*N) rfl W oM oM oM oM
    have R3:=λW=>a9i (a:=2*t*(by_-ay)+N) (b:=2*N) rfl W oM oM oM oM
    have s1:IntKind.i64.wrap (2*(t:Int))=2*t:=a0j oM oM;have s2:IntKind.i64.wrap (2*(t:Int)*(bx-ax))=2*t*(bx-ax):=a0j oM oM;have s3:IntKind.i64.wrap (2*(t:Int)*(by_-ay))=2*t*(by_-ay):=a0j oM oM;have s4:IntKind.i64.wrap (2*(t:Int)*(bx-ax)+N)=2*t*(bx-ax)+N:=a0j oM oM;have s5:IntKind.i64.wrap (2*(t:Int)*(by_-ay)+N)=2*t*(by_-ay)+N:=a0j oM oM;have s6:IntKind.i64.wrap (2*N)=2*N:=a0j oM oM;clear rA bj;generalize (2*t*(bx-ax)+N) / (2*N)=qx at *;generalize (2*t*(by_-ay)+N) / (2*N)=qy at *;have s7:IntKind.i64.wrap (ax+qx)=ax+qx:=a0j oM oM;have s8:IntKind.i64.wrap (ay+qy)=ay+qy:=a0j oM oM;replace dJ:=Lib.hid dJ;obtain⟨l,hl⟩:=zE (b8k (λk:Nat=>a2z (ax,ay) (bx,by_) k) t);have im:l.length=t:=by rw[<-hl];exact a3c _ _
    rw[hl]at hM;go_wp2_with fail;refine Go.wp_region_rel 35 zM zM (λ_ W=>LN w B2 B3 W0.heap.size ax ay bx by_ u6 l W) (λw w'=>w.grownBy w' none) (FLine B2 B3 u6 t N ax ay bx by_ qx qy) (λ_ _ _ _ h g=>h.kept g) (hM.grown (b2y _)) ?_ ?_
    ·clear hM hl im dJ
     intro i o hi ho c bb W hc hM hA hD K hK;match i,hi,ho with
     |0,_,ho =>
      cases ho;have f6:=a0a (v:=u6) (hA.at_ (k:=6) zM);go_simp;exact hK (u6) W rfl (a0o _) hM
     |1,_,ho =>
      cases ho;have f2:=a0a (v:= .pointer (some ⟨B2,0,none⟩)) (hA.at_ (k:=2) zM);go_simp;exact hK (.pointer (some ⟨B2,0,none⟩)) W rfl (a0o _) hM
     |2,_,ho =>
      cases ho;have f31:=a0a (v:= .pointer (some ⟨B2,0,none⟩)) (a0b hD 1 31 zM rfl rfl);have z0:W.cell? ⟨B2,0,none⟩=some (.int .i64 ax):=hM.a0;go_simp;exact hK (.int .i64 ax) W rfl (a0o _) hM
     |3,_,ho =>
      cases ho;have f7:=a0a (v:= .int .i64 t) (hA.at_ (k:=7) zM);go_simp;exact hK (.int .i64 t) W rfl (a0o _) hM
     |4,_,ho =>
      cases ho;have f33:=a0a (v:= .int .i64 t) (a0b hD 3 33 zM rfl rfl);go_simp;exact hK (.int .i64 (2*t)) W rfl (a0o _) hM
     |5,_,ho =>
      cases ho;have f3:=a0a (v:= .pointer (some ⟨B3,0,none⟩)) (hA.at_ (k:=3) zM);go_simp;exact hK (.pointer (some ⟨B3,0,none⟩)) W rfl (a0o _) hM
     |6,_,ho =>
      cases ho;have f35:=a0a (v:= .pointer (some ⟨B3,0,none⟩)) (a0b hD 5 35 zM rfl rfl);have z0:W.cell? ⟨B3,0,none⟩=some (.int .i64 bx):=hM.b0;go_simp;exact hK (.int .i64 bx) W rfl (a0o _) hM
     |7,_,ho =>
      cases ho;have f2:=a0a (v:= .pointer (some ⟨B2,0,none⟩)) (hA.at_ (k:=2) zM);go_simp;exact hK (.pointer (some ⟨B2,0,none⟩)) W rfl (a0o _) hM
     |8,_,ho =>
      cases ho;have f37:=a0a (v:= .pointer (some ⟨B2,0,none⟩)) (a0b hD 7 37 zM rfl rfl);have z0:W.cell? ⟨B2,0,none⟩=some (.int .i64 ax):=hM.a0;go_simp;exact hK (.int .i64 ax) W rfl (a0o _) hM
     |9,_,ho =>
      cases ho;have f36:=a0a (v:= .int .i64 bx) (a0b hD 6 36 zM rfl rfl);have f38:=a0a (v:= .int .i64 ax) (a0b hD 8 38 zM rfl rfl);go_simp;exact hK (.int .i64 (bx-ax)) W rfl (a0o _) hM
     |10,_,ho =>
      cases ho;have f34:=a0a (v:= .int .i64 (2*t)) (a0b hD 4 34 zM rfl rfl);have f39:=a0a (v:= .int .i64 (bx-ax)) (a0b hD 9 39 zM rfl rfl);go_simp;exact hK (.int .i64 ((2*t)*(bx-ax))) W rfl (a0o _) hM
     |11,_,ho =>
      cases ho;have f5:=a0a (v:= .int .i64 N) (hA.at_ (k:=5) zM);go_simp;exact hK (.int .i64 N) W rfl (a0o _) hM
     |12,_,ho =>
      cases ho;have f40:=a0a (v:= .int .i64 ((2*t)*(bx-ax))) (a0b hD 10 40 zM rfl rfl);have f41:=a0a (v:= .int .i64 N) (a0b hD 11 41 zM rfl rfl);go_simp;exact hK (.int .i64 (((2*t)*(bx-ax))+N)) W rfl (a0o _) hM
     |13,_,ho =>
      cases ho;have f5:=a0a (v:= .int .i64 N) (hA.at_ (k:=5) zM);go_simp;exact hK (.int .i64 N) W rfl (a0o _) hM
     |14,_,ho =>
      cases ho;have f43:=a0a (v:= .int .i64 N) (a0b hD 13 43 zM rfl rfl);go_simp;exact hK (.int .i64 (2*N)) W rfl (a0o _) hM
     |15,_,ho =>
      cases ho;have f42:=a0a (v:= .int .i64 (((2*t)*(bx-ax))+N)) (a0b hD 12 42 zM rfl rfl);have f44:=a0a (v:= .int .i64 (2*N)) (a0b hD 14 44 zM rfl rfl);go_simp;refine(R2 W).mono ?_;rintro e W'⟨rfl,rfl⟩;go_simp;exact hK (.int .i64 qx) W rfl (a0o _) hM
     |16,_,ho =>
      cases ho;have f32:=a0a (v:= .int .i64 ax) (a0b hD 2 32 zM rfl rfl);have f45:=a0a (v:= .int .i64 qx) (a0b hD 15 45 zM rfl rfl);go_simp;exact hK (.int .i64 (ax+qx)) W rfl (a0o _) hM
     |17,_,ho =>
      cases ho;have f2:=a0a (v:= .pointer (some ⟨B2,0,none⟩)) (hA.at_ (k:=2) zM);go_simp;exact hK (.pointer (some ⟨B2,1,none⟩)) W rfl (a0o _) hM
     |18,_,ho =>
      cases ho;have f47:=a0a (v:= .pointer (some ⟨B2,1,none⟩)) (a0b hD 17 47 zM rfl rfl);have z0:W.cell? ⟨B2,1,none⟩=some (.int .i64 ay):=hM.a1;go_simp;exact hK (.int .i64 ay) W rfl (a0o _) hM
     |19,_,ho =>
      cases ho;have f7:=a0a (v:= .int .i64 t) (hA.at_ (k:=7) zM);go_simp;exact hK (.int .i64 t) W rfl (a0o _) hM
     |20,_,ho =>
      cases ho;have f49:=a0a (v:= .int .i64 t) (a0b hD 19 49 zM rfl rfl);go_simp;exact hK (.int .i64 (2*t)) W rfl (a0o _) hM
     |21,_,ho =>
      cases ho;have f3:=a0a (v:= .pointer (some ⟨B3,0,none⟩)) (hA.at_ (k:=3) zM);go_simp;exact hK (.pointer (some ⟨B3,1,none⟩)) W rfl (a0o _) hM
     |22,_,ho =>
      cases ho;have f51:=a0a (v:= .pointer (some ⟨B3,1,none⟩)) (a0b hD 21 51 zM rfl rfl);have z0:W.cell? ⟨B3,1,none⟩=some (.int .i64 by_):=hM.b1;go_simp;exact hK (.int .i64 by_) W rfl (a0o _) hM
     |23,_,ho =>
      cases ho;have f2:=a0a (v:= .pointer (some ⟨B2,0,none⟩)) (hA.at_ (k:=2) zM);go_simp;exact hK (.pointer (some ⟨B2,1,none⟩)) W rfl (a0o _) hM
     |24,_,ho =>
      cases ho;have f53:=a0a (v:= .pointer (some ⟨B2,1,none⟩)) (a0b hD 23 53 zM rfl rfl);have z0:W.cell? ⟨B2,1,none⟩=some (.int .i64 ay):=hM.a1;go_simp;exact hK (.int .i64 ay) W rfl (a0o _) hM
     |25,_,ho =>
      cases ho;have f52:=a0a (v:= .int .i64 by_) (a0b hD 22 52 zM rfl rfl);have f54:=a0a (v:= .int .i64 ay) (a0b hD 24 54 zM rfl rfl);go_simp;exact hK (.int .i64 (by_-ay)) W rfl (a0o _) hM
     |26,_,ho =>
      cases ho;have f50:=a0a (v:= .int .i64 (2*t)) (a0b hD 20 50 zM rfl rfl);have f55:=a0a (v:= .int .i64 (by_-ay)) (a0b hD 25 55 zM rfl rfl);go_simp;exact hK (.int .i64 ((2*t)*(by_-ay))) W rfl (a0o _) hM
     |27,_,ho =>
      cases ho;have f5:=a0a (v:= .int .i64 N) (hA.at_ (k:=5) zM);go_simp;exact hK (.int .i64 N) W rfl (a0o _) hM
     |28,_,ho =>
      cases ho;have f56:=a0a (v:= .int .i64 ((2*t)*(by_-ay))) (a0b hD 26 56 zM rfl rfl);have f57:=a0a (v:= .int .i64 N) (a0b hD 27 57 zM rfl rfl);go_simp;exact hK (.int .i64 (((2*t)*(by_-ay))+N)) W rfl (a0o _) hM
     |29,_,ho =>
      cases ho;have f5:=a0a (v:= .int .i64 N) (hA.at_ (k:=5) zM);go_simp;exact hK (.int .i64 N) W rfl (a0o _) hM
     |30,_,ho =>
      cases ho;have f59:=a0a (v:= .int .i64 N) (a0b hD 29 59 zM rfl rfl);go_simp;exact hK (.int .i64 (2*N)) W rfl (a0o _) hM
     |31,_,ho =>
      cases ho;have f58:=a0a (v:= .int .i64 (((2*t)*(by_-ay))+N)) (a0b hD 28 58 zM rfl rfl);have f60:=a0a (v:= .int .i64 (2*N)) (a0b hD 30 60 zM rfl rfl);go_simp;refine(R3 W).mono ?_;rintro e W'⟨rfl,rfl⟩;go_simp;exact hK (.int .i64 qy) W rfl (a0o _) hM
     |32,_,ho =>
      cases ho;have f48:=a0a (v:= .int .i64 ay) (a0b hD 18 48 zM rfl rfl);have f61:=a0a (v:= .int .i64 qy) (a0b hD 31 61 zM rfl rfl);go_simp;exact hK (.int .i64 (ay+qy)) W rfl (a0o _) hM
     |33,_,ho =>
      cases ho;have f46:=a0a (v:= .int .i64 (ax+qx)) (a0b hD 16 46 zM rfl rfl);have f62:=a0a (v:= .int .i64 (ay+qy)) (a0b hD 32 62 zM rfl rfl);go_simp;exact hK (.agg #[.int .i64 (ax+qx),.int .i64 (ay+qy)]) W rfl (a0o _) hM
     |34,_,ho =>
      cases ho;have f63:=a0a (v:= .agg #[.int .i64 (ax+qx),.int .i64 (ay+qy)]) (a0b hD 33 63 zM rfl rfl);go_simp;exact hK (.slice (some ⟨W.heap.size,0,none⟩) 1 1) _ ⟨_,rfl,Blk.new _ _ _⟩ (World.grownBy_alloc W _ none) (hM.alloc _)
     |i+35,hi,_=>exact absurd hi oM
    ·intro bb W hM hA ah
     obtain⟨P,Eu,kP⟩:=(show ∃L,bb.eval (.tmp 64)= .slice (some ⟨L,0,none⟩) 1 1/\Blk W L #[.int .i64 (ax+qx),.int .i64 (ay+qy)] 26 from ah 34 oM _ _ rfl rfl);have jq:bb.eval (.tmp 30)=u6:=ah 0 oM _ _ rfl rfl;have aC:=hA.frame (rT 30 (rF 35 (rT 2 ([])))) _ rfl zM;clear ah hA;obtain⟨f,hf⟩:=zDt bb;have Hs:f 30=u6:=by rw[<-hf,<-jq];rfl
     have M6:f 64= .slice (some ⟨P,0,none⟩) 1 1:=by rw[<-hf,<-Eu];rfl
     rw[hf]at aC;clear hf jq Eu;subst aC;simp only[rT,rF,a2d,Hs,M6,Nat.reduceAdd];clear Hs M6;simp only[zU];have ae:=hM.row;have hle:=hM.lb;go_wp2_with (first|(at_builtin;refine wpList_append_lies _ qM _ _ _ qM W0.heap.size 26 i0 _ 2 16 Tryz.underlying147 aT bM aW bF qM oM u6 l.length _ qM ae ⟨P,0,none⟩ 1 1 (a6j (ax+qx,ay+qy)) qM qM (d9s kP) (by simp[Value.oneCell']) oM oK oM hle _ rfl ?_;intro g cap W2 aj bJ bj lG)|fail);go_roundw
     case rel=>exact⟨t+1,oM,by go_num,by rw[dJ.out,hl];have h9:=hM.appended bJ aj;rw[im]at h9;exact h9⟩
     case measure=>simp[intOf];omega
   ·have R4:t=(N+1).toNat:=oM
    subst R4;have ae:=hM.row;rw[a3c]at ae;have hB:=hM.below;have M9:=hM.lw;clear hM;go_wp2_with fail;go_ret;unfold a7u;rw[tA,a3c];exact⟨_,rfl,W0.heap.size,(by first|exact M9|exact aG.out▸M9),ae,(by first|exact hB|exact aG.out▸hB)⟩
end Go.Proofs.YtfocdbjceedagaaGreatDoor
namespace Go.Proofs.YtfocdbjceedagaaGreatDoor
open Go.RowKit Go.Shelf
section
variable {w W W':Wd}{B2 B3 base:Nat}{ax ay bx by_:Int}{lv:Vu}{l:List a0l}
end
end Go.Proofs.YtfocdbjceedagaaGreatDoor
namespace Go.Proofs.YtfocdbjceedagaaGreatDoor
open Tryz
section
open Go.RowKit Go.Shelf Go.Deep
variable{a:Act}{ops:Array Oper}{Q:Exit->Act->World->Prop}{o:Oper}{w:Wd}
theorem a4d (l:List Dt):(l.flatMap a2k).length=l.length*4:=by
 induction l with
 |nil=>rfl
 |cons e l ih=>simp at ih ⊢;omega
theorem b4f (l:List Dt):∀u∈l.flatMap a2k,u.oneCell'=true:=by
 intro u hu;obtain⟨e,he,h⟩:=List.mem_flatMap.1 hu;simp at h;rcases h with rfl|rfl|rfl|rfl <;> rfl
theorem Dts.news {n₀:Nat}{W:Wd}{sv:Vu}{l:List Dt}(h:Dts n₀ W sv l)(av:l≠[]):∃b off cap,sv= .slice (some ⟨b,off,none⟩) l.length cap/\b<n₀/\∀j u,(l.flatMap a2k)[j]? =some u->W.cell? ((⟨b,off,none⟩:Addr).add j)=some u:=by
 rcases h with⟨-,rfl⟩|⟨b,off,cap,rfl,hb,hl,-,hc⟩
 ·exact absurd rfl av
 ·refine⟨b,off,cap,rfl,hb,λj u hj=> ?_⟩
  rw[Go.WideShapes.add_plain];obtain⟨ag,-⟩:=List.getElem?_eq_some_iff.1 hj;rw[a4d]at ag;obtain⟨q,r,hr,rfl⟩:∃q r,r<4/\j=q*4+r:=⟨j / 4,j % 4,Nat.mod_lt _ jM,oM⟩;obtain⟨f0,f1,f2,f3⟩:=d7x l q oM;obtain⟨c0,c1,c2,c3⟩:=hc q oM;match r,hr,hj with
  |0,_,hj=>exact c0.trans (f0.symm.trans hj)
  |1,_,hj=>exact c1.trans (f1.symm.trans hj)
  |2,_,hj=>exact c2.trans (f2.symm.trans hj)
  |3,_,hj=>exact c3.trans (f3.symm.trans hj)
theorem c1i (W:Wd)(base Z:Nat)(xv:Vu)(l:List Dt)(ty:Td)(hZ:W.ownsRow base 54 4 (.slice (some ⟨Z,0,none⟩) 0 0) 0 [])(hx:Dts W.heap.size W xv l)(hl:l.length<=1000000)(hb:base<=W.heap.size):
 ∃v' W',(Builtin.append_ #[41,41] ty #[.slice (some ⟨Z,0,none⟩) 0 0,xv]).run prog W= .ok v' W'/\W'.ownsRow base 54 4 v' l.length (l.flatMap a2k)/\Below W.heap.size W W':=by
 obtain⟨i0,aT,bM,aW,bF⟩:=info_parts b2j;by_cases av:l=[]
 ·subst av
  have hs:Src prog i0.size 41 xv 0 [] W:=by
   rcases hx with⟨rfl,-⟩|⟨b,off,cap,rfl,-⟩
   ·exact Src.ofNil W underlying41 0
   ·exact Src.ofSlice W underlying41 _ 0 cap [] vM vM vM
  have hr:=run_append_room_src (P:=prog) W 41 41 ty 54 i0 underlying41 aT Z 0 0 0 xv 0 [] hs oM vM vM;exact⟨_,W,hr,hZ,zR _ _⟩
 ·obtain⟨b,off,cap,rfl,lT,cC⟩:=hx.news av
  have dR:0<l.length:=List.length_pos_iff.2 av;obtain⟨v',W',hr,aj,-,-,-⟩:=run_append_own_at (P:=prog) W base 41 ty 54 i0 _ 4 32 underlying41 aT bM aW bF rfl oM _ 0 [] hZ ⟨b,off,none⟩ l.length cap (l.flatMap a2k) (a4d l) cC (b4f l) oK oM hb;have hs:Src prog i0.size 41 (.slice (some ⟨b,off,none⟩) l.length cap) l.length (l.flatMap a2k) W:=Src.ofSlice W underlying41 _ _ cap _ (by rw[aW];exact a4d l) cC (b4f l);have hold:(Builtin.firstCells i0.size 0 (.slice (some ⟨Z,0,none⟩) 0 0)).run prog W.drew= .ok (([]:List Value).toArray) W.drew:=run_firstCells_some W.drew i0.size 0 ⟨Z,0,none⟩ 0 0 [] vM vM;have bY:Builtin.nextslicecap (0+l.length) 0*i0.bytes<=281474976710656:=growslice_fits oM (by rw[bF];omega);have bB:=run_append_grow_src (P:=prog) W 41 41 ty 54 i0 _ underlying41 aT bM (some ⟨Z,0,none⟩) 0 0 [] hold _ l.length _ hs oM oM bY;rw[bB]at hr;injection hr with h1 h2;subst h1 h2;refine⟨_,_,bB,?_,(zR _ W).drew.alloc (yR _) _⟩;simpa using aj
theorem a3w {ops:Array Oper}{K:Act->World->Prop}{Q:Exit->Act->World->Prop}{E:Prop}(dI:o.guard=none)(s x:Operand)
 (ho:o.op= .call { callee:= .builtin .append,args:= #[s,x],argTypes:= #[41,41] })
 (base Z:Nat) (hs:a.eval s= .slice (some ⟨Z,0,none⟩) 0 0) (hZ:w.ownsRow base 54 4 (.slice (some ⟨Z,0,none⟩) 0 0) 0 []) (xv:Vu) (l:List Dt) (dH:a.eval x=xv) (hx:Dts w.heap.size w xv l) (hl:l.length<=1000000) (hb:base<=w.heap.size)
 (h:∀v' w',w'.ownsRow base 54 4 v' l.length (l.flatMap a2k)->Below w.heap.size w w'->K (a.put o.dst v') w') :
 if Region.wanted o (yielded ops a.tmps)=true then Oper.wp prog o a w K Q else E:=by
 have hw:Region.wanted o (yielded ops a.tmps)=true:=by simp[Region.wanted,dI]
 rw[if_pos hw];obtain⟨v',w',hr,h2,h3⟩:=c1i w base Z xv l o.type hZ hx hl hb;unfold Oper.wp execOp;simp only[ho,resolve,invoke,builtin,Sem.run_bind,Sem.run_pure,Result.andThen_ok,List.map_toArray,List.map_cons,List.map_nil,hs,dH,hr];exact h v' w' h2 h3
theorem a6i {ops:Array Oper}{K:Act->World->Prop}{Q:Exit->Act->World->Prop}{E:Prop}(dI:o.guard=none)(s x:Operand)
 (ho:o.op= .call { callee:= .builtin .append,args:= #[s,x],argTypes:= #[41,41] })
 (base:Nat) (v:Vu) (l1 l2:List Dt) (hs:a.eval s=v) (hv:w.ownsRow base 54 4 v l1.length (l1.flatMap a2k)) (b off m c:Nat) (hx:a.eval x= .slice (some ⟨b,off,none⟩) m c) (hD:Dts w.heap.size w (.slice (some ⟨b,off,none⟩) m c) l2)
 (hl:l1.length+l2.length<=1000000) (hb:base<=w.heap.size)
 (h:∀v' w',w'.ownsRow base 54 4 v' (l1++l2).length ((l1++l2).flatMap a2k)->w.grownBy w' v.ownBlock->K (a.put o.dst v') w') :
 if Region.wanted o (yielded ops a.tmps)=true then Oper.wp prog o a w K Q else E:=by
 have hw:Region.wanted o (yielded ops a.tmps)=true:=by simp[Region.wanted,dI]
 rw[if_pos hw];obtain⟨i0,aT,bM,aW,bF⟩:=info_parts b2j;have hm:m=l2.length/\∀j u,(l2.flatMap a2k)[j]? =some u->w.cell? ((⟨b,off,none⟩:Addr).add j)=some u:=by
  by_cases av:l2=[]
  ·subst av
   rcases hD with⟨h1,-⟩|⟨b',fh,aI,h1,-⟩
   ·simp at h1
   ·simp only[Value.slice.injEq]at h1
    exact⟨h1.2.1,by simp⟩
  ·obtain⟨b',fh,aI,h1,-,h2⟩:=hD.news av
   simp only[Value.slice.injEq,Option.some.injEq,Addr.mk.injEq,and_true]at h1;obtain⟨⟨rfl,rfl⟩,rfl,-⟩:=h1;exact⟨rfl,h2⟩
 obtain⟨rfl,cC⟩:=hm;obtain⟨v',w',hr,aj,BN,-,-⟩:=run_append_own_at (P:=prog) w base 41 o.type 54 i0 _ 4 32 underlying41 aT bM aW bF rfl oM v l1.length (l1.flatMap a2k) hv ⟨b,off,none⟩ l2.length c (l2.flatMap a2k) (a4d l2) cC (b4f l2) oK oM hb;unfold Oper.wp execOp;simp only[ho,resolve,invoke,builtin,Sem.run_bind,Sem.run_pure,Result.andThen_ok,List.map_toArray,List.map_cons,List.map_nil,hs,hx,hr];exact h v' w' (by rw[List.length_append,List.flatMap_append];exact aj) BN
end
section
open Go.RowKit Go.Shelf Go.Maps
theorem c4t (ps:List a0l)(k:Nat)(h:k<ps.length):a4n (ps.take (k+1))=(a4n (ps.take k)&&a1j ps[k].1 ps[k].2):=by
 unfold a4n;rw[List.take_add_one,List.getElem?_eq_getElem h,List.all_append];simp
theorem c8i {ps:List a0l}(h:a4n ps=true)(k:Nat)(hk:k<ps.length):a1j ps[k].1 ps[k].2=true:=List.all_eq_true.1 h _ (List.getElem_mem hk)
end
section
open Go.RowKit Go.Shelf Go.Deep
variable{l l8:List Dt}{base cap g:Nat}{v:Vu}{W X wr:Wd}
theorem b4g {B:Nat}{a b c d:Int}{t:Td}(h:Blk W B #[.int .i64 a,.int .i64 b,.int .i64 c,.int .i64 d] t):W.cell? ⟨B,0,none⟩=some (.int .i64 a)/\W.cell? ⟨B,1,none⟩=some (.int .i64 b)/\W.cell? ⟨B,2,none⟩=some (.int .i64 c)/\W.cell? ⟨B,3,none⟩=some (.int .i64 d) :=
 ⟨h.cell 0,h.cell 1,h.cell 2,h.cell 3⟩
theorem a6f {Z:Nat}(h:Blk X Z #[] 54)(hb:base<=Z):X.ownsRow base 54 4 (.slice (some ⟨Z,0,none⟩) 0 0) 0 [] :=
 ⟨rfl,.inr ⟨Z,0,#[],rfl,hb,h,yR _,Nat.zero_le _,rfl,rfl⟩⟩
theorem Lead.succ {x:Dt}{k:Nat}(h:Lead l x k)(hk:k<l.length)(ag:ltS (l[k].x,l[k].y) (x.x,x.y)=true):Lead l x (k+1) :=
 ⟨hk,λj hj=>by
  by_cases he:j=k
  ·subst he;exact ag
  ·exact h.lt j oM⟩
theorem a9p {P:Nat}{x y k i:Int}(h:Blk X P #[.int .i64 x,.int .i64 y,.int .i64 k,.int .i64 i] 54):∀j u,(a2k ⟨x,y,k,i⟩)[j]? =some u->X.cell? ((⟨P,0,none⟩:Addr).add j)=some u:=λj u hj=>by
 rw[Go.WideShapes.add_plain,Nat.zero_add];match j,hj with
 |0,hj=>exact(h.cell 0).trans hj
 |1,hj=>exact(h.cell 1).trans hj
 |2,hj=>exact(h.cell 2).trans hj
 |3,hj=>exact(h.cell 3).trans hj
 |j+4,hj=>simp at hj
theorem b4h {ops:Array Oper}{o:Oper}{a:Act}{w:Wd}{K:Act->World->Prop}{Q:Exit->Act->World->Prop}{E:Prop}(dI:o.guard=none)(s x:Operand)
 (ho:o.op= .call { callee:= .builtin .append,args:= #[s,x],argTypes:= #[41,41] })
 (b n cap:Nat) (hs:a.eval s= .slice (some ⟨b,0,none⟩) n cap) (hx:a.eval x= .slice none 0 0) (hn:n<=cap)
 (h:K (a.put o.dst (.slice (some ⟨b,0,none⟩) n cap)) w) :
 if Region.wanted o (yielded ops a.tmps)=true then Oper.wp prog o a w K Q else E:=by
 have hw:Region.wanted o (yielded ops a.tmps)=true:=by simp[Region.wanted,dI]
 rw[if_pos hw];obtain⟨i0,aT,bM,aW,bF⟩:=info_parts b2j;have hr:=run_append_room_src (P:=prog) w 41 41 o.type 54 i0 underlying41 aT b 0 n cap (.slice none 0 0) 0 [] (Src.ofNil w underlying41 0) oM vM vM;unfold Oper.wp execOp;simp only[ho,resolve,invoke,builtin,Sem.run_bind,Sem.run_pure,Result.andThen_ok,List.map_toArray,List.map_cons,List.map_nil,hs,hx,hr];exact h
theorem d9t {n:Nat}{xs:List Value}(h:W.ownsRow base 54 4 (.slice (some ⟨g,0,none⟩) n cap) n xs):n<=cap:=by
 rcases h.2 with⟨h,-⟩|⟨g',c,cur,h,-,-,hc,-⟩
 ·cases h
 ·simp only[Value.slice.injEq]at h
  obtain⟨-,-,rfl⟩:=h;exact hc
theorem d2d {w8:Wd}{v8:Vu}(hb:base<=W.heap.size)(hB:Below W.heap.size W wr)(h8:w8.ownsRow wr.heap.size 54 4 v8 l8.length (l8.flatMap a2k))(sL:Below wr.heap.size wr w8)(he:l=l8):
 ∃v',(Ending.returned v8:Ending)= .returned v'/\w8.ownsRow base 54 4 v' l.length (l.flatMap a2k)/\W.grownBy w8 v.ownBlock:=by
 subst he;refine⟨v8,rfl,h8.mono (Nat.le_trans hb hB.size),b4e (a0t (hB.trans (sL.mono hB.size))) _⟩
theorem d9u (h:W.ownsRow base 54 4 (.slice (some ⟨g,0,none⟩) l.length cap) l.length (l.flatMap a2k))(k:Nat)(hk:k<l.length)(id:Int):
 (W.setCell ⟨g,k*4+3,none⟩ (.int .i64 id)).ownsRow base 54 4 (.slice (some ⟨g,0,none⟩) l.length cap) (l.set k ⟨l[k].x,l[k].y,l[k].k,id⟩).length ((l.set k ⟨l[k].x,l[k].y,l[k].k,id⟩).flatMap a2k):=by
 obtain⟨h1,h2⟩:=h;rcases h2 with⟨h2,-⟩|⟨g',aI,cur,he,hg,hb,hc,hm,hs,ht⟩
 ·cases h2
 ·simp only[Value.slice.injEq,Option.some.injEq,Addr.mk.injEq,true_and,and_true]at he
  obtain⟨rfl,rfl⟩:=he;have az:=Blk.set (B:=g) (c:=cur) (t:=54) hb (k*4+3) (.int .i64 id);rw[List.length_set];refine⟨by rw[a4d,List.length_set],.inr ⟨g,cap,_,rfl,hg,az,hc,hm,by simpa using hs,?_⟩⟩;rw[<-d6o l k id hk,<-ht,Array.toList_setIfInBounds,List.take_set]
theorem d6q (hB:Below W.heap.size W wr)(ae:W.ownsRow base 54 4 (.slice (some ⟨g,0,none⟩) l.length cap) l.length (l.flatMap a2k))(k:Nat)(hk:k<l.length)(id:Int)(p:Growth)(he:l8=l.set k ⟨l[k].x,l[k].y,l[k].k,id⟩):
 ∃v',(Ending.returned (.slice (some ⟨g,0,none⟩) l.length cap):Ending)= .returned v'/\((wr.setCell ⟨g,k*4+3,none⟩ (.int .i64 id)).growBy p).ownsRow base 54 4 v' l8.length (l8.flatMap a2k)/\W.grownBy ((wr.setCell ⟨g,k*4+3,none⟩ (.int .i64 id)).growBy p) (Value.slice (some ⟨g,0,none⟩) l.length cap).ownBlock:=by
 subst he;have h1:=ae.kept (a0t hB) (.inr (by simp[Value.ownBlock]));have h2:=d9u h1 k hk id;refine⟨_,rfl,h2.kept (a0p _ p) (.inr (by simp[Value.ownBlock])),?_⟩;refine⟨hB.os,hB.tape,hB.output,by have:=hB.size;simp;omega,λj hj av=> ?_⟩;rw[World.heap_growBy _ _ (by have:=hB.size;simp;omega),Below.heap_setCell _ _ _ _ (λe=>av (by simp[Value.ownBlock,e]))];exact hB.block j hj
theorem d6r (hB:Below W.heap.size W wr)(ae:W.ownsRow base 54 4 v l.length (l.flatMap a2k))(he:l8=l):
 ∃v',(Ending.returned v:Ending)= .returned v'/\wr.ownsRow base 54 4 v' l8.length (l8.flatMap a2k)/\W.grownBy wr v.ownBlock:=by
 subst he;exact⟨v,rfl,ae.kept (a0t hB) (by cases v.ownBlock <;> simp),b4e (a0t hB) _⟩
theorem d2e (v:Vu)(l:List Dt)(x y kd id:Int)(base:Nat)(w:Wd)(ae:w.ownsRow base 54 4 v l.length (l.flatMap a2k))(hb:base<=w.heap.size)(hl:l.length<=100000)(hf:∀d∈l,fits d.x/\fits d.y):
 Calls prog 94 #[v,.agg #[.int .i64 x,.int .i64 y,.int .i64 kd,.int .i64 id]] w λe w'=>∃v',e= .returned v'/\w'.ownsRow base 54 4 v' (a6b l ⟨x,y,kd,id⟩).length ((a6b l ⟨x,y,kd,id⟩).flatMap a2k)/\w.grownBy w' v.ownBlock:=by
 have yH:=b5f ae oM hf;obtain⟨i0,aT,bM,aW,bF⟩:=info_parts b2j;have AQ:=Blk.new w #[.int .i64 x,.int .i64 y,.int .i64 kd,.int .i64 id] 54;have sd:Below w.heap.size w (w.alloc (.cells #[.int .i64 x,.int .i64 y,.int .i64 kd,.int .i64 id] 54)):=zC;rcases ae.2 with⟨rfl,h0⟩|⟨g,cap,cur,rfl,hg,hblk,bY,hcm,dN,su⟩
 ·obtain rfl:l=[]:=List.eq_nil_of_length_eq_zero h0
  have p9:=Lib.hid (show a6b [] ⟨x,y,kd,id⟩=[(⟨x,y,kd,id⟩:Dt)]from rfl);go_enter func94,ntmps94;go_wp2_with fail;refine wp_loop_rounds 1 ?_;rw[rounds_succ];go_wp2_with fail;refine zR0 λp=> ?_
  go_wp2_with fail;refine zR0 λp=> ?_
  go_wp2_with fail;refine a0m (λwy jx=> ?_);have hB:Below w.heap.size w wy:=by
   rw[jx];exact zC
  have kX:Blk wy w.heap.size #[.int .i64 x,.int .i64 y,.int .i64 kd,.int .i64 id] 54:=by
   rw[jx];exact AQ.grow _
  clear jx AQ sd;have lX:=kX.lt;obtain⟨X,hX⟩:=zE w.heap.size;rw[hX]at kX lX ⊢;replace hX:=Lib.hid hX;obtain⟨x0,x1,x2,x3⟩:=b4g kX;go_region_law
   (first
    |(refine a3w qM _ _ qM wy.heap.size _ qM (a6f ?_ ?_) (.slice none 0 0) [] qM (.inl ⟨rfl,rfl⟩) vM zC ?_;(first|exact Blk.new _ _ _|(have h:=(Blk.new (wy.alloc (.cells #[.int .i64 x,.int .i64 y,.int .i64 kd,.int .i64 id] 54)) #[] 54).drew;rw[World.size_alloc]at h;exact h)|exact((Blk.new wy #[] 54).alloc _).drew);(first|exact yR _|(simp;done)|omega);intro v6 w6 bI iT;have cA:Below wy.heap.size wy w6:=Below.trans zC (iT.mono zC);have AX:=cA.size;obtain⟨d0,d1,d2,d3⟩:=b4g (kX.below cA lX);replace bI:w6.ownsRow wy.heap.size 54 4 v6 0 []:=bI)
    |((first|(refine step_append_lies _ qM _ _ _ qM wy.heap.size 54 i0 _ 4 32 underlying41 aT bM aW bF rfl oM v6 0 [] qM (bI.alloc _) ⟨w6.heap.size,0,none⟩ 1 1 (a2k ⟨x,y,kd,id⟩) qM qM (a9p (Blk.new _ _ _)) (by simp[Value.oneCell']) oM oK oM zC _ rfl ?_)|(refine step_append_lies _ qM _ _ _ qM wy.heap.size 54 i0 _ 4 32 underlying41 aT bM aW bF rfl oM v6 0 [] qM bI ⟨wy.heap.size,0,none⟩ 1 1 (a2k ⟨x,y,kd,id⟩) qM qM (a9p (((Blk.new wy #[.int .i64 x,.int .i64 y,.int .i64 kd,.int .i64 id] 54).alloc (.cells #[] 54)).drew.below iT (by simp;try omega))) (by simp[Value.oneCell']) oM oK oM zC _ rfl ?_)|(refine step_append_lies _ qM _ _ _ qM wy.heap.size 54 i0 _ 4 32 underlying41 aT bM aW bF rfl oM v6 0 [] qM bI ⟨wy.heap.size+1,0,none⟩ 1 1 (a2k ⟨x,y,kd,id⟩) qM qM (a9p (by have h:=(Blk.new (wy.alloc (.cells #[] 54)) #[.int .i64 x,.int .i64 y,.int .i64 kd,.int .i64 id] 54).drew.below iT (by simp;try omega);simpa using h)) (by simp[Value.oneCell']) oM oK oM zC _ rfl ?_));intro g7 j9 w7 jk ef AY gd;have gg:Below wy.heap.size wy w7:=(by first|exact cA.grown ef cA.size (λr e=>(bI.lt r e).1)|exact(cA.alloc cA.size _).grown ef (Nat.le_trans cA.size vM) (λr e=>(bI.lt r e).1));have R5:1<=j9:=d9t jk)
    |(refine b4h qM _ _ qM g7 1 j9 qM qM R5 ?_))
  all_goals
   try go_simp
   go_wp2_with fail;go_ret;exact d2d (l8:=[⟨x,y,kd,id⟩]) hb hB (by simpa using jk) gg p9.out
 ·have FY:g<w.heap.size:=(Array.getElem?_eq_some_iff.1 hblk).1
  go_enter func94,ntmps94;go_wp2_with fail;obtain⟨W1,aH⟩:=zE (w.alloc (.cells #[.int .i64 x,.int .i64 y,.int .i64 kd,.int .i64 id] 54));rw[aH]at AQ sd ⊢;clear aH;have Na:=AQ.lt;obtain⟨X,hX⟩:=zE w.heap.size;rw[hX]at AQ Na ⊢;replace hX:=Lib.hid hX;go_loopw [5] (λi wr=>∃k:Nat,i= .int .i64 (k:Nat)/\Lead l ⟨x,y,kd,id⟩ k/\Below W1.heap.size W1 wr) (λi _=>l.length-(intOf i).toNat)
  case atStart=>exact⟨0,rfl,Lead.zero _ _,zR _ _⟩
  case round =>
   obtain⟨k,rfl,Ew,dq⟩:=hrel;have hk:=Ew.le;have hB:Below w.heap.size w wr:=sd.trans (dq.mono sd.size);have bu:=dq.size;have kX:=AQ.below dq Na;have lX:X<wr.heap.size:=oM;obtain⟨x0,x1,x2,x3⟩:=b4g kX;have sP:=yH.up hB hB.size;by_cases ag:k<l.length
   ·have aA:(k:Int)<(l.length:Int):=oM
    obtain⟨-,a',aI,uW,ep⟩:=sP.open_;obtain⟨b',fh,bL,-,hr,-⟩:=ep k ag;simp only[Value.slice.injEq,true_and]at uW;obtain⟨rfl,rfl⟩:=uW;simp only[Option.some.injEq,Addr.mk.injEq,and_true]at bL;obtain⟨rfl,rfl⟩:=bL;obtain⟨c0,c1,c2,c3⟩:=hr;rw[Nat.zero_add]at c0 c1 c2 c3;have pw:=Ew.succ ag;have bP:=λh1 h2=>d9p ag Ew.lt h1 h2
    have aM:=λh1 h2=>d2b ag Ew.lt h1 h2
    simp only at pw bP aM;clear ep;rw[d9q]at pw bP;obtain⟨d,hd⟩:=zE (l[k]);rw[hd]at c0 c1 c2 c3 pw bP aM;obtain⟨dx,dy,dk,di⟩:=d;replace hd:=Lib.hid hd;simp only at c0 c1 c2 c3 pw bP aM;have ju:¬cap=k:=oM;have Kt:(k:Int)<=(cap:Int):=oM;have aR:(k:Int)<=(l.length:Int):=oM;have iB:0<=(k:Int):=oM;have Cb:∀p,Below W1.heap.size W1 (wr.growBy p):=λp=>below_growBy' dq bu p
    by_cases h1:dy<y
    ·replace pw:=Lib.hid (pw (by simp[h1]))
     exact yfi
    ·by_cases h2:y=dy
     ·subst h2
      by_cases h3:dx<x
      ·replace pw:=Lib.hid (pw (by simp[h3]))
       exact yfi
      ·by_cases h4:x=dx
       ·subst h4
        replace aM:=Lib.hid (aM rfl rfl);clear pw bP;have Oz:wr.frozen? ⟨g,k*4+3,none⟩=false:=Blk.frozen (B:=g) (c:=cur) (t:=54) ((hB.block g FY).trans hblk) _;by_cases h5:id<di
        ·go_wp2_with fail
         refine zR0 λp=> ?_
         go_wp2_with fail;refine zR0 λp=> ?_
         go_wp2_with fail;refine zR0 λp=> ?_
         go_wp2_with fail;go_ret;exact d6q hB ae k ag id _ (by rw[aM.out,if_pos h5];rw[hd.out])
        ·go_wp2_with fail
         refine zR0 λp=> ?_
         go_wp2_with fail;refine zR0 λp=> ?_
         go_wp2_with fail;refine zR0 λp=> ?_
         go_wp2_with fail;go_ret;exact d6r (below_growBy' hB hB.size _) ae (by rw[aM.out,if_neg oM])
       ·have R6:(dx==x)=false:=by simpa using λe=>h4 (Eq.symm e)
        have p9:=Lib.hid (bP (by simp[h3]) (λe=>h4 e.1.symm));clear pw bP aM;exact yaa
     ·have U3:(dy==y)=false:=by simpa using λe=>h2 (Eq.symm e)
      have p9:=Lib.hid (bP (by simp[h1,Ne.symm h2]) (λe=>h2 e.2.symm));clear pw bP aM;by_cases h4:x=dx
      ·subst h4
       exact yaa
      ·have R6:(dx==x)=false:=by simpa using λe=>h4 (Eq.symm e)
       exact yaa
   ·have aY:¬(k:Int)<(l.length:Int):=oM
    have Ex:=Lib.hid (show k=l.length by omega);have p9:=Lib.hid (show a6b l ⟨x,y,kd,id⟩=l.take k++⟨x,y,kd,id⟩::l.drop k by
     rw[d6n (λj hj=>Ew.lt j oM),List.take_of_length_le oM,List.drop_of_length_le oM])
    have aR:(k:Int)<=(l.length:Int):=oM;have iB:0<=(k:Int):=oM;have Kt:(k:Int)<=(cap:Int):=oM;by_cases ju:k=cap
    ·subst ju
     go_wp2_with fail;refine zR0 λp=> ?_
     go_wp2_with fail;refine zR0 λp=> ?_
     go_wp2_with fail;refine a0m (λwy jx=> ?_);have pR:Below wr.heap.size wr wy:=by
      rw[jx];exact zC
     clear jx;replace hB:=hB.trans (pR.mono hB.size);replace kX:=kX.below pR lX;replace lX:=kX.lt;replace sP:=sP.up pR pR.size;have rQ:=sP.take k k hk;obtain⟨lk,cX⟩:∃lk:List Dt,lk=l.take k++[⟨x,y,kd,id⟩]:=⟨_,rfl⟩;have pS:=Lib.hid (show lk.length=(l.take k).length+1 by rw[cX,List.length_append];rfl);have wB:=Lib.hid (show lk.flatMap a2k=(l.take k).flatMap a2k++a2k ⟨x,y,kd,id⟩ by rw[cX,List.flatMap_append];simp);have Gy:lk.length<=100001:=by rw[pS.out,List.length_take];omega
     replace cX:=Lib.hid cX;clear x0 x1 x2 x3 dq;obtain⟨x0,x1,x2,x3⟩:=b4g kX;go_region_law
      (first
       |(refine a3w qM _ _ qM wy.heap.size _ qM (a6f ?_ ?_) _ (l.take k) qM (rQ.up zC zC) (by rw[List.length_take];omega) zC ?_;(first|exact Blk.new _ _ _|(have h:=(Blk.new (wy.alloc (.cells #[.int .i64 x,.int .i64 y,.int .i64 kd,.int .i64 id] 54)) #[] 54).drew;rw[World.size_alloc]at h;exact h)|exact((Blk.new wy #[] 54).alloc _).drew);(first|exact yR _|(simp;done)|omega);intro v6 w6 bI iT;have cA:Below wy.heap.size wy w6:=Below.trans zC (iT.mono zC);have AX:=cA.size;obtain⟨d0,d1,d2,d3⟩:=b4g (kX.below cA lX))
       |((first|(refine step_append_lies _ qM _ _ _ qM wy.heap.size 54 i0 _ 4 32 underlying41 aT bM aW bF rfl oM v6 (l.take k).length _ qM (bI.alloc _) ⟨w6.heap.size,0,none⟩ 1 1 (a2k ⟨x,y,kd,id⟩) qM qM (a9p (Blk.new _ _ _)) (by simp[Value.oneCell']) oM (by unfold maxLen;rw[List.length_take];omega) (by rw[List.length_take];omega) zC _ rfl ?_)|(refine step_append_lies _ qM _ _ _ qM wy.heap.size 54 i0 _ 4 32 underlying41 aT bM aW bF rfl oM v6 (l.take k).length _ qM bI ⟨wy.heap.size,0,none⟩ 1 1 (a2k ⟨x,y,kd,id⟩) qM qM (a9p (((Blk.new wy #[.int .i64 x,.int .i64 y,.int .i64 kd,.int .i64 id] 54).alloc (.cells #[] 54)).drew.below iT (by simp;try omega))) (by simp[Value.oneCell']) oM (by unfold maxLen;rw[List.length_take];omega) (by rw[List.length_take];omega) zC _ rfl ?_)|(refine step_append_lies _ qM _ _ _ qM wy.heap.size 54 i0 _ 4 32 underlying41 aT bM aW bF rfl oM v6 (l.take k).length _ qM bI ⟨wy.heap.size+1,0,none⟩ 1 1 (a2k ⟨x,y,kd,id⟩) qM qM (a9p (by have h:=(Blk.new (wy.alloc (.cells #[] 54)) #[.int .i64 x,.int .i64 y,.int .i64 kd,.int .i64 id] 54).drew.below iT (by simp;try omega);simpa using h)) (by simp[Value.oneCell']) oM (by unfold maxLen;rw[List.length_take];omega) (by rw[List.length_take];omega) zC _ rfl ?_));intro g7 j9 w7 jk ef AY gd;have gg:Below wy.heap.size wy w7:=(by first|exact cA.grown ef cA.size (λr e=>(bI.lt r e).1)|exact(cA.alloc cA.size _).grown ef (Nat.le_trans cA.size vM) (λr e=>(bI.lt r e).1));have eZ:w7.ownsRow wy.heap.size 54 4 (.slice (some ⟨g7,0,none⟩) ((l.take k).length+1) j9) lk.length (lk.flatMap a2k):=(by rw[pS.out,wB.out];exact jk);obtain⟨v7,AZ⟩:∃v,v=Value.slice (some ⟨g7,0,none⟩) ((l.take k).length+1) j9:=⟨_,rfl⟩;rw[<-AZ]at eZ ⊢;clear AZ)
       |(refine a6i qM _ _ qM wy.heap.size v7 lk (l.drop k) qM eZ g 0 0 0 rfl ((sP.drop k _ _ _ hk (.inr Ex.out) (by have:=Ex.out;omega)).up gg gg.size) (by rw[List.length_drop];omega) gg.size ?_;intro v8 w8 uJ ml))
     all_goals
      have A2:=gg.grown ml gg.size (λr e=>(eZ.lt r e).1);try go_simp
      exact yjz
    ·replace ju:¬cap=k:=λe=>ju e.symm
     exact yaa
end
end Go.Proofs.YtfocdbjceedagaaGreatDoor
