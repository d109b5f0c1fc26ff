/-
  Parts.
-/
import Derived.Test.YteijfnkidefekaaGreatEbf
import Derived.Test.YteijfnkidefekaaGreatEbp
import Derived.Test.YteijfnkidefekaaGreatEbv
set_option linter.unusedVariables false
set_option linter.unusedSimpArgs false
set_option linter.unusedSectionVars false
set_option maxRecDepth 100000
namespace Go.Proofs.YteijfnkidefekaaGreat
open Tryz
section
open Go Go.RowKit Go.Shelf Go.Lib Go.Maps
variable{B B11 k n₀:Nat}{t:Td}{v:Vu}{W W' W6:Wd}
structure Mv where
 x0:Option Addr
 c0:Nat
 E:List Eg
 x1:Option Addr
 c1:Nat
 Fa:List Fc
 x2:Option Addr
 c2:Nat
 Y:List Wq
 x3:Option Addr
 c3:Nat
 P:List Pc
instance : Inhabited Mv:=⟨⟨none,0,[],none,0,[],none,0,[],none,0,[]⟩⟩
abbrev Mv.A (M:Mv):Array Value:= #[.slice M.x0 M.E.length M.c0,.slice M.x1 M.Fa.length M.c1,.slice M.x2 M.Y.length M.c2,.slice M.x3 M.P.length M.c3]
def Mv.key (M:Mv):Mp:=a1d M.E M.Fa M.Y M.P
structure Mv.In (n0:Nat)(W:Wd)(M:Mv):Prop where
 m:MapV n0 W (.slice M.x0 M.E.length M.c0) (.slice M.x1 M.Fa.length M.c1) (.slice M.x2 M.Y.length M.c2) (.slice M.x3 M.P.length M.c3) M.E M.Fa M.Y M.P
structure Mv.Ok (W:Wd)(M:Mv):Prop where
 i:M.In W.heap.size W
 e:M.E.length<=33
 y:M.Y.length<=23
 p:M.P.length<=252
theorem Mv.In.up {M:Mv}(h:M.In W.heap.size W)(hb:Below W.heap.size W W'):M.In W'.heap.size W':=⟨h.m.up hb⟩
theorem Mv.Ok.up {M:Mv}(h:M.Ok W)(hb:Below W.heap.size W W'):M.Ok W':={ h with i:=h.i.up hb }
theorem Mp9.mv {D:Nat->Prop}{S:BS}{K:Nat}{a1 a2 a3 a4:Option Addr}{m1 c1 m2 c2 m3 c3 m4 c4:Nat}{l:List Pc}(h:Mp9 D S W K a1 m1 c1 a2 m2 c2 a3 m3 c3 a4 m4 c4 l)(hK:K<=3):∃M:Mv,(.agg #[.slice a1 m1 c1,.slice a2 m2 c2,.slice a3 m3 c3,.slice a4 m4 c4]:Value)= .agg M.A/\M.Ok W:=by
 obtain⟨E,Fa,Y,h1,h2,h3,hm⟩:=h.mapV hK;have k1:=h.ne;have k2:=h.nw;have k3:=h.np;have k4:=h.ln;subst h1 h2 h3 k4;exact⟨⟨a1,c1,E,a2,c2,Fa,a3,c3,Y,a4,c4,l⟩,rfl,⟨hm⟩,by show E.length<=33;omega,by show Y.length<=23;omega,by show l.length<=252;omega⟩
def c8d (w:Wd)(e:Ending)(w':Wd):Prop:=∃M N O:Mv,e= .returned (.tuple #[.agg M.A,.agg N.A,.agg O.A])/\M.Ok w'/\N.Ok w'/\O.Ok w'/\Below w.heap.size w w'
theorem c9e (la:Option Addr)(ak:Nat)(rows:List (Value×List Int))(da:Option Addr)(dn dc:Nat)(ga:Option Addr)(gn gc:Nat)(w:Wd)(hM:Mat w.heap.size w (.slice la rows.length ak) rows)(hd:Tri3 w.heap.size w da dn)(hg:Tri3 w.heap.size w ga gn):
 Calls prog 5 #[.agg #[.slice la rows.length ak,.slice da dn dc,.slice ga gn gc]] w λe w'=>c8d w e w':=by
 refine(c7w la ak rows da dn dc ga gn gc w hM hd hg).mono ?_;rintro e w'⟨_,_,_,_,_,_,_,_,_,_,_,_,_,_,_,_,_,_,_,_,_,_,_,_,_,_,_,_,_,_,_,_,_,_,_,_,_,_,_,_,_,_,D,rfl,h1,h2,h3,hb⟩;obtain⟨M,e1,o1⟩:=h1.mv xM;obtain⟨N,e2,o2⟩:=h2.mv xM;obtain⟨O,e3,o3⟩:=h3.mv xM;rw[e1,e2,e3];exact⟨M,N,O,rfl,o1,o2,o3,hb⟩
def EdO (M N:Mv)(es:List Et):Prop :=
 ∃a b R,(ids M.key).Nodup/\(ids N.key).Nodup/\NormR M.key a/\NormR N.key b/\a2c a b=true/\(∀i,i∈R↔(i∈a.w.map Wk.id/\i∉b.w.map Wk.id)\/(i∈a.p.map Pc.id/\i∉b.p.map Pc.id))/\es.map Et.key=a2m R a b
def EdG (W:Wd)(es:List Et):Prop:=∀x∈es,Ln W.heap.size W x.w.sl x.w.line/\GoodEt x
def d0i (M N:Mv)(w:Wd)(e:Ending)(w':Wd):Prop :=
 Below w.heap.size w w' /\
  ((e= .returned (.tuple #[.slice none 0 0,.bool false])/\((ids M.key).Nodup->(ids N.key).Nodup->∃a b,NormR M.key a/\NormR N.key b/\a2c a b=false)) \/
   ∃x c es n,e= .returned (.tuple #[.slice x n c,.bool true])/\List.length es=n/\Lst etE w'.heap.size w' (.slice x n c) es/\EdG w' es/\EdO M N es)
theorem b7p {n0:Nat}{W:Wd}:∀(E:List Eg),(∀x∈E,Ln n0 W x.sl x.line)->(E.map λx:Eg=>x.line.length).sum<=1000*E.length
 |[],_=>by simp
 |x::E,h=>by
  have h1:=(h x List.mem_cons_self).len;have h2:=b7p E λy hy=>h y (List.mem_cons_of_mem _ hy)
  simp only[List.map_cons,List.sum_cons,List.length_cons];omega
theorem c8e (M N:Mv)(w:Wd)(h1:M.Ok w)(h2:N.Ok w):Calls prog 6 #[.agg M.A,.agg N.A] w (d0i M N w):=by
 have hs:=b7p N.E h2.i.m.el;have h3:=h2.e;refine Calls.mono (b7m M.x0 M.x1 M.x2 M.x3 N.x0 N.x1 N.x2 N.x3 M.c0 M.c1 M.c2 M.c3 N.c0 N.c1 N.c2 N.c3 M.E N.E M.Fa N.Fa M.Y N.Y M.P N.P w h1.i.m h2.i.m xM) ?_;rintro e w'⟨hb,h|⟨v,es,a,b,R,rfl,hL,hF,hx,pa,pb,na,nb,hf,-,hR,hk⟩⟩
 ·exact⟨hb,.inl h⟩
 ·obtain⟨x,c,rfl,-⟩:=hL.form
  refine⟨hb,.inr ⟨x,c,es,es.length,rfl,rfl,hL,λy hy=> ?_,a,b,R,pa,pb,na,nb,hf,hR,hk⟩⟩;have hm:y.key∈es.map Et.key:=List.mem_map.2 ⟨y,hy,rfl⟩;rw[hk]at hm;obtain⟨k1,k2⟩:=c2e R a b _ hm;refine⟨(hx y hy).1,k1,(hx y hy).2.1,(hx y hy).2.2,λh5=> ?_⟩;obtain⟨z,hz,n,hn,hl⟩:=k2 h5;have PB:=nb.e.1.symm.subset hz;obtain⟨g,hg,rfl⟩:=List.mem_map.1 PB;have gO:=(h2.i.m.el g hg).len;have vI:n<g.line.length:=hl;have rz:y.n=(n:Int):=hn;rw[rz];exact⟨xM,xM⟩
theorem c8f (M:Mv)(w:Wd)(h:M.In w.heap.size w):Calls prog 9 #[.agg M.A] w λe w'=>∃N:Mv,e= .returned (.agg N.A)/\N.In w'.heap.size w'/\NormR M.key N.key/\Below w.heap.size w w':=by
 refine(a7x _ _ _ _ M.E M.Fa M.Y M.P w h.m).mono ?_;rintro e w'⟨a0,d0,a1,d1,a2,d2,a3,d3,E',F',Y',P',rfl,hm,hn,hb⟩;exact⟨⟨a0,d0,E',a1,d1,F',a2,d2,Y',a3,d3,P'⟩,rfl,⟨hm⟩,hn,hb⟩
theorem c9f (M N:Mv)(w:Wd)(h1:M.In w.heap.size w)(h2:N.In w.heap.size w)(hk:M.key=N.key):Zc prog 8 #[.agg M.A,.agg N.A] w (.bool true):=by
 refine(b3e _ _ _ _ _ _ _ _ M.E N.E M.Fa N.Fa M.Y N.Y M.P N.P w h1.m h2.m).mono ?_;rintro e w'⟨rfl,hb⟩;exact⟨by rw[decide_eq_true (show a1d M.E M.Fa M.Y M.P=a1d N.E N.Fa N.Y N.P from hk)],hb⟩
theorem c8g (M:Mv)(x:Et)(w:Wd)(h:M.In w.heap.size w)(hY:M.Y.length<1000)(hP:M.P.length<1000)(hx:Ln w.heap.size w x.w.sl x.w.line/\GoodEt x):Calls prog 7 #[.agg M.A,etV x] w λe w'=>∃N:Mv,e= .returned (.agg N.A)/\N.In w'.heap.size w'/\N.key=a2b M.key x.key/\Below w.heap.size w w':=by
 refine Calls.mono (c2f M.x0 M.x1 M.x2 M.x3 M.c0 M.c1 M.c2 M.c3 M.E M.Fa M.Y M.P x hx.2 hY hP w h.m hx.1) ?_;rintro e w'⟨hb,a0,d0,a1,d1,a2,d2,a3,d3,E',F',Y',P',rfl,hm,hk⟩;exact⟨⟨a0,d0,E',a1,d1,F',a2,d2,Y',a3,d3,P'⟩,rfl,⟨hm⟩,hk,hb⟩
theorem c8h (M:Mv)(w:Wd)(h:M.In w.heap.size w):Zc prog 10 #[.agg M.A] w (.bool (a7l M.key)):=b6f M.x0 M.x1 M.x2 M.x3 M.c0 M.c1 M.c2 M.c3 M.E M.Fa M.Y M.P w h.m
theorem Mv.wl (M:Mv):M.key.w.length=M.Y.length:=by simp[Mv.key,a1d]
theorem Mv.pl (M:Mv):M.key.p.length=M.P.length:=rfl
structure Now (W:Wd)(M N:Mv)(es:List Et)(k:Nat)(O:Mv):Prop where
 i:O.In W.heap.size W
 k:O.key=((es.take k).map Et.key).foldl a2b M.key
theorem Now.up {M N:Mv}{es:List Et}{O:Mv}(h:Now W M N es k O)(hb:Below W.heap.size W W'):Now W' M N es k O:={ h with i:=h.i.up hb }
theorem Now.len {M N:Mv}{es:List Et}{O:Mv}(h:Now W M N es k O)(h1:M.Ok W')(h2:N.Ok W')(hE:EdO M N es):O.Y.length<1000/\O.P.length<1000:=by
 obtain⟨a,b,R,-,-,na,nb,-,-,hk⟩:=hE;have e1:=b4a ((es.take k).map Et.key) M.key;have e2:=b4b ((es.take k).map Et.key) M.key;rw[<-h.k,List.map_take,hk]at e1 e2;have e3:=b4c 2 (a2m R a b) k;have e4:=b4c 3 (a2m R a b) k;have e5:=c8w R a b;have e6:=c8x R a b;have e7:=nb.w.1.length_eq;have e8:=nb.p.1.length_eq;rw[Mv.wl]at e1 e7;rw[Mv.pl]at e2 e8;rw[Mv.wl]at e1;rw[Mv.pl]at e2;have:=h1.y;have:=h1.p;have:=h2.y;have:=h2.p;exact⟨xM,xM⟩
theorem Now.step {M N:Mv}{es:List Et}{O O':Mv}(h:Now W M N es k O)(hk:k<es.length)(hi:O'.In W'.heap.size W')(hO:O'.key=a2b O.key es[k].key):Now W' M N es (k+1) O':=by
 refine⟨hi,?_⟩;rw[hO,h.k,List.take_add_one,List.getElem?_eq_getElem hk,List.map_append,List.foldl_append];rfl
theorem Now.law {M N:Mv}{es:List Et}{O:Mv}(h:Now W M N es es.length O)(hE:EdO M N es){c d:Mp}(hc:NormR O.key c)(hd:NormR N.key d):c=d:=by
 obtain⟨a,b,R,pa,pb,na,nb,hf,hR,hk⟩:=hE;have hO:=h.k;rw[List.take_length,hk]at hO;rw[hO]at hc;have h1:=c0h M.key N.key a b na nb pa pb hf R hR c hc;rw[h1];exact a5j nb hd pb (List.Perm.refl _) (List.Perm.refl _) (List.Perm.refl _) (List.Perm.refl _)
structure Turn (M T:Mv):Prop where
 e:T.E=M.E
 f:T.Fa=M.Fa
 w:T.Y=M.Y.reverse
 p:T.P=M.P.reverse
theorem Turn.perms {M T:Mv}(h:Turn M T):M.key.e.Perm T.key.e/\M.key.f.Perm T.key.f/\M.key.w.Perm T.key.w/\M.key.p.Perm T.key.p:=by
 unfold Mv.key a1d;rw[h.e,h.f,h.w,h.p];exact⟨List.Perm.refl _,List.Perm.refl _,((List.reverse_perm M.Y).symm).map _,(List.reverse_perm M.P).symm⟩
theorem Turn.nodup {M T:Mv}(h:Turn M T):(ids M.key).Nodup↔(ids T.key).Nodup:=c4r h.perms.1 h.perms.2.1 h.perms.2.2.1 h.perms.2.2.2
theorem Turn.nil {M T:Mv}{es:List Et}(h:Turn M T)(hE:EdO M T es):es=[]/\a7l M.key=true:=by
 obtain⟨a,b,R,pa,pb,na,nb,hf,hR,hk⟩:=hE;obtain⟨h1,h2,h3,h4⟩:=h.perms;have bq:=a5j na nb pa h1 h2 h3 h4;subst bq;rw[b9g a R hR]at hk;refine⟨by simpa using hk,?_⟩;unfold a7l;exact decide_eq_true pa
theorem Turn.no {M T:Mv}(h:Turn M T)(hE:(ids M.key).Nodup->(ids T.key).Nodup->∃a b,NormR M.key a/\NormR T.key b/\a2c a b=false):a7l M.key=false:=by
 unfold a7l;refine decide_eq_false λpa=> ?_
 obtain⟨a,b,na,nb,hf⟩:=hE pa (h.nodup.1 pa);obtain⟨h1,h2,h3,h4⟩:=h.perms;have bq:=a5j na nb pa h1 h2 h3 h4;subst bq;rw[b6g]at hf
 cases hf
def El.Num {α:Type}(E:El α):Prop:=0<E.s/\∀x,∃k z,(E.enc x)[0]? =some (.int k z)
theorem Lst.off39 {α:Type}{E:El α}(hE:E.Num){l:List α}(h:Lst E n₀ W v l){M:Mv}(hB:Blk W B M.A t)(hs:∀b,b≠B->W'.heap[b]? =W.heap[b]?):Lst E n₀ W' v l:=by
 obtain⟨a,cap,e,h1,h2,h3⟩:=h;refine⟨a,cap,e,h1,h2,λj hj=> ?_⟩;obtain⟨b,off,e2,ab,hc⟩:=h3 j hj;refine⟨b,off,e2,ab,λi hi=> ?_⟩;have an:b≠B:=λhb=>by
  subst hb;obtain⟨k,z,hz⟩:=hE.2 l[j];have h0:=hc 0 hE.1;rw[hz,hB.cell]at h0;match hm:off+j*E.s+0 with
  |0=>rw[hm]at h0;cases h0
  |1=>rw[hm]at h0;cases h0
  |2=>rw[hm]at h0;cases h0
  |3=>rw[hm]at h0;cases h0
  |m+4 =>
   rw[hm]at h0;simp at h0
 have:W'.cell? ⟨b,off+j*E.s+i,none⟩=W.cell? ⟨b,off+j*E.s+i,none⟩:=by
  unfold World.cell?;rw[hs b an]
 exact this.trans (hc i hi)
theorem c9g:egE.Num:=⟨jM,λx=>⟨_,_,rfl⟩⟩
theorem c9h:fcE.Num:=⟨jM,λx=>⟨_,_,rfl⟩⟩
theorem c9i:wqE.Num:=⟨jM,λx=>⟨_,_,rfl⟩⟩
theorem c9j:plE.Num:=⟨jM,λx=>⟨_,_,rfl⟩⟩
theorem c9k:ptE.Num:=⟨jM,λx=>⟨_,_,rfl⟩⟩
theorem Ln.off39 {l:List a3v}(h:Ln n₀ W v l){M:Mv}(hB:Blk W B M.A t)(hs:∀b,b≠B->W'.heap[b]? =W.heap[b]?):Ln n₀ W' v l:=⟨h.lst.off39 c9k hB hs,h.frm,h.len⟩
theorem Mv.In.off {C M:Mv}(h:C.In n₀ W)(hB:Blk W B M.A t)(hs:∀b,b≠B->W'.heap[b]? =W.heap[b]?):C.In n₀ W' :=
 ⟨{ h.m with e:=h.m.e.off39 c9g hB hs,el:=λx hx=>(h.m.el x hx).off39 hB hs,f:=h.m.f.off39 c9h hB hs,w:=h.m.w.off39 c9i hB hs,wl:=λx hx=>(h.m.wl x hx).off39 hB hs,p:=h.m.p.off39 c9j hB hs }⟩
structure InM (M N:Mv)(es:List Et)(W6:Wd)(B11 k:Nat)(C:Mv)(W:Wd):Prop where
 b:Blk W B11 C.A 32
 c:Now W M N es k C
 bel:Below W6.heap.size W6 W
theorem InM.up {M N:Mv}{es:List Et}{C:Mv}(h:InM M N es W6 B11 k C W)(hb:Below W.heap.size W W'):InM M N es W6 B11 k C W' :=
 ⟨h.b.below hb h.b.lt,h.c.up hb,h.bel.trans (hb.mono h.bel.size)⟩
theorem InM.put {M N:Mv}{es:List Et}{C C':Mv}(h:InM M N es W6 B11 k C W)(hB:W6.heap.size<=B11)(hn:Now W M N es (k+1) C'):InM M N es W6 B11 (k+1) C' (a3r W B11 (.slice C'.x0 C'.E.length C'.c0) (.slice C'.x1 C'.Fa.length C'.c1) (.slice C'.x2 C'.Y.length C'.c2) (.slice C'.x3 C'.P.length C'.c3)) :=
 ⟨h.b.set39 _ _ _ _,⟨by rw[c7u];exact hn.i.off h.b λb hb=>a9w hb _ _ _ _,hn.k⟩,b8q h.bel hB _ _ _ _⟩
end
section
open Go.RowKit Go.Shelf
section
variable {P:Program}{W:Wd}{r:Reach}{base:Nat}{t:Td}{v:Vu}
theorem b6n (ag:(match P.underlying t with|some (.struct _)|some (.array _ _)=>true|_=>false)=true)(h:Value.okWide P W r base t v):∃cs,v= .agg cs/\cs.size=P.cellsOf t/\Row.okWide P W r base t cs:=by
 unfold Value.okWide at h;split at ag <;> simp_all
end
section
variable {H:Type}{enc:TypeId×Value->H}{P:Program}{W:Wd}{base:Nat}{sp:Nat->Bool}{hd:Bool}{t e:Td}{v:Vu}
theorem a9l {ts:List TypeId}{vs:List Value}{ds:List (DataW H)}{ps:List MemPlace}(h:DataW.TrodAll enc P W base sp hd (t::ts) (v::vs) ds ps):∃d p,DataW.Trod enc P W base sp hd t v d p:=by
 cases ds with
 |nil=>exact h.elim
 |cons d ds=>obtain⟨p,q,h1,-,-⟩:=h;exact⟨d,p,h1⟩
theorem b9k {t2:Td}{fuel:Nat}{x:DataW H×List MemPlace}(vV:P.underlying t2=some (.slice t))(fp:P.cellsOf t=1)(ht:P.underlying t=some (.slice e))(he:P.underlying e=some (.int .i64))(hc:P.cellsOf e=1)
 (h:DataW.trod enc P W base sp hd fuel t2 [v]=some x):∃la ak rows,v= .slice la (List.length rows) ak/\Mat W.heap.size W v rows:=by
 have hv:∀cs,v≠.agg cs:=by
  rcases Go.Deep.open_slice1 vV fp h with⟨h1,-⟩|⟨a,len,cap,m,n,V,D,Pl,h1,-⟩
  ·obtain rfl:v= .slice none 0 0:=by simpa using h1
   intro cs lq
   cases lq
  ·obtain rfl:v= .slice (some a) len cap:=by simpa using h1
   intro cs lq
   cases lq
 have lq:v.cells.toList=[v]:=by cases v <;> first|rfl|exact absurd rfl (hv _)
 obtain⟨rows,hM,-⟩:=c5s vV fp ht he hc hv ⟨x.1,x.2,fuel,by rw[lq];exact h⟩;obtain⟨la,ak,e_,h2⟩:=id hM;exact⟨la,ak,rows,e_,hM⟩
theorem b7q {fuel:Nat}{x:DataW H×List MemPlace}{cs:List Value}(ht:P.underlying t=some (.array 3 e))(he:P.underlying e=some (.int .i64))(hc:P.cellsOf e=1)(lM:P.cellsOf t=3)
 (h:DataW.trod enc P W base sp hd fuel t cs=some x):∃q:Int×Int×Int,cs=[.int .i64 q.1,.int .i64 q.2.1,.int .i64 q.2.2]/\a0l q.1/\a0l q.2.1/\a0l q.2.2:=by
 obtain⟨xs,m,rfl,-,hl,K9,hf⟩:=DataW.trod_array ht h;rw[lM]at hl;match cs,hl with
 |[c0,c1,c2],_ =>
  have g0:=hf 0 xM;have g1:=hf 1 xM;have g2:=hf 2 xM;rw[hc,List.getElem?_eq_getElem xM]at g0 g1 g2;obtain⟨z0,e0,-,f0⟩:=DataW.trod_int he g0;obtain⟨z1,e1,-,f1⟩:=DataW.trod_int he g1;obtain⟨z2,e2,-,f2⟩:=DataW.trod_int he g2;simp at e0 e1 e2;subst e0 e1 e2;exact⟨(z0,z1,z2),rfl,a7s _ f0,a7s _ f1,a7s _ f2⟩
theorem b7r {t2:Td}{fuel:Nat}{x:DataW H×List MemPlace}(vV:P.underlying t2=some (.slice t))(ht:P.underlying t=some (.array 3 e))(he:P.underlying e=some (.int .i64))(hc:P.cellsOf e=1)(lM:P.cellsOf t=3)
 (h:DataW.trod enc P W base sp hd fuel t2 [v]=some x):∃da dn dc,v= .slice da dn dc/\Tri3 W.heap.size W da dn:=by
 rcases Go.Deep.open_slice vV h with⟨h1,-⟩|⟨a,len,cap,m,n,D,Pl,h1,-,h2,-,h3,-,h4⟩
 ·obtain rfl:v= .slice none 0 0:=by simpa using h1
  exact⟨_,_,_,rfl,⟨λk hk=>absurd hk (Nat.not_lt_zero k)⟩⟩
 ·obtain rfl:v= .slice (some a) len cap:=by simpa using h1
  have hm:len<=m:=by rw[h3];split <;> omega
  refine⟨_,_,_,rfl,⟨λk hk _=> ?_⟩⟩;obtain⟨MM,h5,h6⟩:=h4 k xM;rw[lM]at h5;obtain⟨q,rfl,hq⟩:=b7q ht he hc lM h6;obtain⟨-,-,h7⟩:=World.cells?_some h5;have c0:=h7 0 xM;have jg:a.spot=none:=by
   obtain⟨Rc,k5,k6⟩:=h4 0 xM;rw[lM]at k5;obtain⟨q0,rfl,-⟩:=b7q ht he hc lM k6;obtain⟨-,-,k7⟩:=World.cells?_some k5;have d0:W.cell? ((a.add (0*3)).add 0)=some (.int .i64 q0.1):=k7 0 xM;simpa[Addr.add]using World.cell?_spot d0
  obtain⟨b,off,spot⟩:=a;simp only at jg;subst jg;refine⟨b,off,q,rfl,?_,λi hi=> ?_,hq⟩
  ·have d0:W.cell? (((⟨b,off,none⟩:Addr).add (k*3)).add 0)=some (.int .i64 q.1):=c0
   rw[Go.WideShapes.add_plain,Go.WideShapes.add_plain]at d0;exact World.block_lt_of_cell? _ _ d0
  ·have pF:i<3:=hi
   have d:=h7 i xM;rw[Go.WideShapes.add_plain,Go.WideShapes.add_plain]at d;exact d
end
theorem b9l {H:Type}{enc:TypeId×Value->H}{W:Wd}{r:Reach}{base sA:Nat}{sp:Nat->Bool}{hd:Bool}{v:Vu}(h:Value.okWide prog W r base 25 v)(ht:∃d p,DataW.Trod enc prog W sA sp hd 25 v d p) :
 ∃la ak rows da dn dc ga gn gc,v= .agg #[.slice la (List.length rows) ak,.slice da dn dc,.slice ga gn gc]/\Mat W.heap.size W (.slice la (List.length rows) ak) rows/\Tri3 W.heap.size W da dn/\Tri3 W.heap.size W ga gn:=by
 obtain⟨cs,rfl,hn,-⟩:=b6n zM h;have rz:cs.size=3:=hn.trans zM;obtain⟨l⟩:=cs;match l,rz,ht with
 |[c0,c1,c2],_,⟨d,p,fuel,ht⟩ =>
  have qm:prog.underlying 25=some (.struct (prog.fieldsOf 25)):=by kernel_rfl
  obtain⟨xs,n,-,-,hl,K9,Ce⟩:=DataW.trod_struct qm ht;have aM:(prog.fieldsOf 25).size=3:=by kernel_rfl
  have one:∀(j o:Nat) (ty:Td),(prog.fieldsOf 25)[j]?.map (λf=>(f.offset,f.type))=some (o,ty)->prog.cellsOf ty=1->∃y,DataW.trod enc prog W sA sp hd n ty (([c0,c1,c2].drop o).take 1)=some y:=λj o ty hj hc=>by
   obtain⟨f,Aq,yg⟩:=Option.map_eq_some_iff.1 hj;simp only[Prod.mk.injEq]at yg;have vK:j<(prog.fieldsOf 25).size:=(Array.getElem?_eq_some_iff.1 Aq).1;have La:=Ce j f Aq;rw[yg.1,yg.2,hc,List.getElem?_eq_getElem (by rw[K9];exact vK)]at La;exact⟨_,La⟩
  obtain⟨y0,g0⟩:=one 0 0 22 zM zM;obtain⟨y1,g1⟩:=one 1 1 23 zM zM;obtain⟨y2,g2⟩:=one 2 2 23 zM zM;obtain⟨la,ak,rows,rfl,hM⟩:=b9k (t2:=22) (t:=100) underlying22 zM underlying100 underlying3 zM (v:=c0) g0;obtain⟨da,dn,dc,rfl,h1⟩:=b7r (t2:=23) (t:=119) underlying23 underlying119 underlying3 zM zM (v:=c1) g1;obtain⟨ga,gn,gc,rfl,h2⟩:=b7r (t2:=23) (t:=119) underlying23 underlying119 underlying3 zM zM (v:=c2) g2;exact⟨la,ak,rows,da,dn,dc,ga,gn,gc,rfl,hM,h1,h2⟩
end
end Go.Proofs.YteijfnkidefekaaGreat
