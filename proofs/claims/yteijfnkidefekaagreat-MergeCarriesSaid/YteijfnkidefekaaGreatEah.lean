/-
  Parts.
-/
import Derived.Test.YteijfnkidefekaaGreatEag
set_option linter.unusedVariables false
set_option linter.unusedSimpArgs false
set_option linter.unusedSectionVars false
namespace Go.Proofs.YteijfnkidefekaaGreat
open Tryz
section
open Go.RowKit Go.Shelf
structure Intz (n₀:Nat)(W:Wd)(v:Vu)(xs:List Int):Prop where
 ints:Ints n₀ W v xs
 len:b2e xs.length
theorem Intz.nil (n₀:Nat)(W:Wd):Intz n₀ W (.slice none 0 0) []:=⟨⟨none,0,rfl,λj hj=>by simp at hj⟩,Nat.zero_le _⟩
def Mat (n₀:Nat)(W:Wd)(lv:Vu)(rows:List (Value×List Int)):Prop :=
 ∃a cap,lv= .slice a rows.length cap/\rows.length<=cap/\∀j,(h:j<rows.length)->∃b off,a=some ⟨b,off,none⟩/\b<n₀/\W.cell? ⟨b,off+j,none⟩=some rows[j].1/\Intz n₀ W rows[j].1 rows[j].2
theorem Intz.below {n₀:Nat}{A B:Wd}(h:Below n₀ A B){v:Vu}{xs:List Int}(k:Intz n₀ A v xs):Intz n₀ B v xs:=⟨k.ints.below h,k.len⟩
theorem Mat.below {n₀:Nat}{A B:Wd}(h:Below n₀ A B){lv:Vu}{rows:List (Value×List Int)}:Mat n₀ A lv rows->Mat n₀ B lv rows
 |⟨a,cap,e,hc,f⟩=>⟨a,cap,e,hc,λj hj=>by
  obtain⟨b,off,h1,h2,h3,h4⟩:=f j hj;exact⟨b,off,h1,h2,(h.cell (p:=⟨b,off+j,none⟩) h2).trans h3,h4.below h⟩⟩
theorem Mat.mono {n₀ ek:Nat}(h:n₀<=ek){W:Wd}{lv:Vu}{rows:List (Value×List Int)}:Mat n₀ W lv rows->Mat ek W lv rows
 |⟨a,cap,e,hc,f⟩=>⟨a,cap,e,hc,λj hj=>by
  obtain⟨b,off,h1,h2,h3,⟨a2,c2,e2,f2⟩,h5⟩:=f j hj;exact⟨b,off,h1,xM,h3,⟨a2,c2,e2,λi hi=>by obtain⟨b',o',k1,k2,k3⟩:=f2 i hi;exact⟨b',o',k1,xM,k3⟩⟩,h5⟩⟩
def OB6 (W:Wd)(B:Nat):Prop:=∃c,Blk W B c 158/\c.size=6/\∀u∈c.toList,∃x,u= .int .i64 x/\a0l x
theorem OB6.kept {W W':Wd}{B:Nat}{row:Option Nat}(h:OB6 W B)(hg:W.grownBy W' row)(hr:row≠some B):OB6 W' B:=by
 obtain⟨c,h1,h2,h3⟩:=h;exact⟨c,h1.kept hg hr,h2,h3⟩
theorem OB6.ev {X S S':BS}{W W':Wd}{B:Nat}(h:OB6 W B)(he:Ev X S W S' W')(hS:¬S B)(hX:¬X B):OB6 W' B:=by
 obtain⟨c,h1,h2,h3⟩:=h;exact⟨c,he.blk h1 hS hX,h2,h3⟩
theorem OB6.lt {W:Wd}{B:Nat}(h:OB6 W B):B<W.heap.size:=by obtain⟨c,h1,-⟩:=h;exact h1.lt
theorem OB6.at_ {W:Wd}{B:Nat}(h:OB6 W B){q:Nat}(hq:q<6):∃x,W.cell? ⟨B,q,none⟩=some (.int .i64 x)/\a0l x:=by
 obtain⟨c,h1,h2,h3⟩:=h;obtain⟨x,hx,fx⟩:=h3 (c[q]'(by omega)) vM;exact⟨x,by rw[h1.cell,Array.getElem?_eq_getElem xM,hx],fx⟩
theorem OB6.set {W:Wd}{B:Nat}(h:OB6 W B)(q:Nat){x:Int}(fx:a0l x):OB6 (W.setCell ⟨B,q,none⟩ (.int .i64 x)) B:=by
 obtain⟨c,h1,h2,h3⟩:=h;refine⟨_,h1.set q _,by simpa using h2,λu hu=> ?_⟩;rw[Array.toList_setIfInBounds]at hu;rcases List.mem_or_eq_of_mem_set hu with hu|rfl
 ·exact h3 u hu
 ·exact⟨x,rfl,fx⟩
theorem OB6.frozen {W:Wd}{B:Nat}(h:OB6 W B)(q:Nat):W.frozen? ⟨B,q,none⟩=false:=by obtain⟨c,h1,-⟩:=h;exact h1.frozen q
theorem Ev.wide {X Y S0 S S':BS}{W0 W W':Wd}(h:Ev X S0 W0 S W)(he:Ev Y S W S' W')(hY:∀b,Y b->W0.heap.size<=b):Ev X S0 W0 S' W' :=
 ⟨λb hb=>he.sub b (h.sub b hb),λb hb=>by
  rcases he.new b hb with h1|h1
  ·exact h.new b h1
  ·exact .inr (Nat.le_trans h.size h1),he.os.trans h.os,he.tape.trans h.tape,he.output.trans h.output,Nat.le_trans h.size he.size,λb hb hn hx=>by
  have ck:¬S b:=λh1=>by
   rcases h.new b h1 with h2|h2
   ·exact hn h2
   ·omega
  exact(he.rest b (Nat.lt_of_lt_of_le hb h.size) ck (λhy=>by have:=hY b hy;omega)).trans (h.rest b hb hn hx),h.shape.trans he.shape h.sub,he.ok⟩
structure M7 (w:Wd)(D BO:Nat)(fv:Vu)(fs:List Int)(S:BS)(W:Wd):Prop where
 td:TD S w.heap.size D fv fs W
 ob:OB6 W BO
 nO:¬S BO
 lO:w.heap.size<=BO
 dO:BO≠D
 bel:Ev noB noB w S W
section
variable {w W W':Wd}{D BO:Nat}{fv:Vu}{fs:List Int}{S S':BS}
theorem M7.evo (h:M7 w D BO fv fs S W)(he:Ev noB S W S' W'):M7 w D BO fv fs S' W' :=
 ⟨h.td.ev he (λ_ h=>h.elim),h.ob.ev he h.nO (λh=>h),he.not h.ob.lt h.nO,h.lO,h.dO,h.bel.trans he⟩
theorem M7.up (h:M7 w D BO fv fs S W)(hb:Below W.heap.size W W'):M7 w D BO fv fs S W':=h.evo (Ev.of_below h.td.tw hb)
theorem TD.own {S:BS}{n₀ D:Nat}{sv:Vu}{xs:List Int}{W:Wd}(h:TD S n₀ D sv xs W){B:Nat}(hB:n₀<=B)(hD:B≠D)(hS:¬S B)(i:Nat)(v:Vu):TD S n₀ D sv xs (W.setCell ⟨B,i,none⟩ v):=by
 obtain⟨j,hj,hb⟩:=h.box;have hg:=a0u W B i v;have ab:=h.lt;refine⟨h.tw.of_same (λb hb=>hg.block b (h.tw.lt hb) (λe=>hS (by cases e;exact hb))),⟨j,hj,hb.kept hg (λe=>hD (Option.some.inj e))⟩,h.ints.below (Below.of_grown hg (by have:=h.le;omega) (λq e=>by cases e;exact hB)),h.le,h.len,h.low,h.not⟩
theorem M7.set (h:M7 w D BO fv fs S W)(q:Nat){x:Int}(fx:a0l x):M7 w D BO fv fs S (W.setCell ⟨BO,q,none⟩ (.int .i64 x)) :=
 ⟨h.td.own h.lO h.dO h.nO q _,h.ob.set q fx,h.nO,h.lO,h.dO,h.bel.own (a0u W BO q _) (λr e=>by cases e;exact⟨h.nO,h.lO⟩)⟩
end
structure M8 (w:Wd)(D BO:Nat)(fv:Vu)(fs:List Int)(E:Nat)(tv:Vu)(ts:List Int)(S:BS)(W:Wd):Prop where
 m7:M7 w D BO fv fs S W
 te:TD S w.heap.size E tv ts W
 dE:D≠E
 oE:BO≠E
section
variable {w W W':Wd}{D BO E:Nat}{fv tv:Vu}{fs ts:List Int}{S S':BS}
theorem M8.then_ (h:M8 w D BO fv fs E tv ts S W)(ht:TD S' w.heap.size E tv ts W')(he:Ev (a7d E) S W S' W'):M8 w D BO fv fs E tv ts S' W':=by
 have hX:∀b,a7d E b->w.heap.size<=b/\b≠D:=λb hb=>by cases hb;exact⟨h.te.le,λe=>h.dE e.symm⟩
 exact⟨⟨h.m7.td.ev he hX,h.m7.ob.ev he h.m7.nO h.oE,he.not h.m7.ob.lt h.m7.nO,h.m7.lO,h.m7.dO,h.m7.bel.wide he (λb hb=>(hX b hb).1)⟩,ht,h.dE,h.oE⟩
theorem M8.evo (h:M8 w D BO fv fs E tv ts S W)(he:Ev noB S W S' W'):M8 w D BO fv fs E tv ts S' W':=⟨h.m7.evo he,h.te.ev he (λ_ h=>h.elim),h.dE,h.oE⟩
theorem M8.up (h:M8 w D BO fv fs E tv ts S W)(hb:Below W.heap.size W W'):M8 w D BO fv fs E tv ts S W':=h.evo (Ev.of_below h.te.tw hb)
end
theorem Ints.mono {n₀ ek:Nat}(h:n₀<=ek){W:Wd}{v:Vu}{xs:List Int}:Ints n₀ W v xs->Ints ek W v xs
 |⟨a,c,e,f⟩=>⟨a,c,e,λi hi=>by obtain⟨b,o,k1,k2,k3⟩:=f i hi;exact⟨b,o,k1,xM,k3⟩⟩
def Pt2 (v:Vu):Prop:=∃x y,v= .agg #[.int .i64 x,.int .i64 y]/\a0l x/\a0l y
def Six (v:Vu):Prop:=∃x0 x1 x2 x3 x4 x5,v= .agg #[.int .i64 x0,.int .i64 x1,.int .i64 x2,.int .i64 x3,.int .i64 x4,.int .i64 x5]/\a0l x0/\a0l x1/\a0l x2/\a0l x3/\a0l x4/\a0l x5
def c6x (v:Vu):Prop:=∃x,v= .int .i64 x/\a0l x
section
variable {w W W':Wd}{D BO E:Nat}{fv tv sv:Vu}{fs ts ss:List Int}{S S':BS}
theorem M8.below (h:M8 w D BO fv fs E tv ts S W):Below w.heap.size w W:=h.m7.bel.below (λ_ h=>h.elim) (λ_ h=>h.elim) (yR _)
theorem M8.node (h:M8 w D BO fv fs E tv ts S W)(hs:Intz w.heap.size w sv ss)(i j:Int)(bV:0<=i)(hi:i<=4)(kY:0<=j)(hj:j<=4) :
 Calls prog 81 #[sv,.int .i64 i,.int .i64 j] W λe W'=>∃v,e= .returned v/\Pt2 v/\M8 w D BO fv fs E tv ts S W'/\Ev (a7d E) S W S W':=by
 obtain⟨i,rfl⟩:∃n:Nat,i=n:=⟨i.toNat,xM⟩;obtain⟨j,rfl⟩:∃n:Nat,j=n:=⟨j.toNat,xM⟩;refine(c3j sv ss i j W (Ints.mono h.below.size (hs.ints.below h.below)) hs.len xM xM).mono ?_;rintro e W'⟨⟨x,y,rfl,fx,fy⟩,hb⟩;exact⟨_,rfl,⟨x,y,rfl,fx,fy⟩,h.up hb,Ev.of_below h.te.tw hb⟩
theorem M8.wiggle (h:M8 w D BO fv fs E tv ts S W)(ax ay bx by_:Int)(fa:a0l ax)(fb:a0l ay)(fc:a0l bx)(fd:a0l by_) :
 Calls prog 80 #[.agg #[.int .i64 ax,.int .i64 ay],.agg #[.int .i64 bx,.int .i64 by_],.pointer (some ⟨E,0,none⟩)] W λe W'=>∃S' v,e= .returned v/\(∃n,SL S' W' 41 v n/\n<=6)/\M8 w D BO fv fs E tv ts S' W'/\Ev (a7d E) S W S' W':=by
 refine(b7v _ E tv ts S W h.te ax ay bx by_ fa fb fc fd).mono ?_;rintro e W'⟨S',v,n,rfl,h1,h2,h3,h4⟩;exact⟨S',v,rfl,⟨n,h1,h2⟩,h.then_ h3 h4,h4⟩
theorem M8.cell (h:M8 w D BO fv fs E tv ts S W)(a0 a1 a2 a3 a4 a5 cw ch i j:Int)(f0:a0l a0)(f1:a0l a1)(f2:a0l a2)(f3:a0l a3)(f4:a0l a4)(f5:a0l a5)(hw:cw<=3)(hh:ch<=2) :
 Calls prog 82 #[.agg #[.int .i64 a0,.int .i64 a1,.int .i64 a2,.int .i64 a3,.int .i64 a4,.int .i64 a5],.int .i64 cw,.int .i64 ch,.int .i64 i,.int .i64 j] W λe W'=>∃v,e= .returned v/\c6x v/\M8 w D BO fv fs E tv ts S W'/\Ev (a7d E) S W S W':=by
 refine(c3k a0 a1 a2 a3 a4 a5 cw ch i j W f0 f1 f2 f3 f4 f5 hw hh).mono ?_;rintro e W'⟨⟨x,rfl,fx⟩,hb⟩;exact⟨_,rfl,⟨x,rfl,fx⟩,h.up hb,Ev.of_below h.te.tw hb⟩
theorem M8.add (h:M8 w D BO fv fs E tv ts S W)(ev:Vu)(m:Nat)(cT:SL S W 71 ev m)(hm:m<=100)(lv:Vu)(n:Nat)(cf:SL S W 41 lv n)(hn:n<=100)(l r:Int)(fl:a0l l)(fr:a0l r) :
 Calls prog 79 #[ev,lv,.int .i64 l,.int .i64 r,.pointer (some ⟨E,0,none⟩)] W λe W'=>∃S' v,e= .returned v/\(∃m',SL S' W' 71 v m'/\m'<=m+1)/\M8 w D BO fv fs E tv ts S' W'/\Ev (a7d E) S W S' W':=by
 refine(b0l _ E tv ts S W h.te ev m cT hm lv n cf hn l r fl fr).mono ?_;rintro e W'⟨S',v,rfl,h1,h3,h4⟩;exact⟨S',v,rfl,h1,h.then_ h3 h4,h4⟩
end
theorem Ev.join {g S':BS}{W W':Wd}(h:TW g W)(h3:Ev noB noB W S' W'):Ev noB g W (λb=>g b\/S' b) W':=by
 have h1:=Ev.of_below (X:=noB) h h3.low;refine⟨λb hb=> .inl hb,λb hb=> ?_,h3.os,h3.tape,h3.output,h3.size,λb hb _ _=>h3.rest b hb (λh=>h) (λh=>h),h1.shape,λb hb=> ?_⟩
 ·rcases hb with hb|hb
  ·exact .inl hb
  ·rcases h3.new b hb with h2|h2
   ·exact h2.elim
   ·exact .inr h2
 ·rcases hb with hb|hb
  ·obtain⟨c,e,hc,ht⟩:=h1.ok b hb
   exact⟨c,e,hc,ht.mono (λ_ h=> .inl h) (Shp.refl _ _)⟩
  ·obtain⟨c,e,hc,ht⟩:=h3.ok b hb
   exact⟨c,e,hc,ht.mono (λ_ h=> .inr h) (Shp.refl _ _)⟩
structure Bx1 (w:Wd)(B:Nat)(c:Array Value)(t:Td)(S:BS)(W:Wd):Prop where
 ev:Ev noB noB w S W
 b:Blk W B c t
 n:¬S B
 l:w.heap.size<=B
theorem Bx1.evo {w W W':Wd}{B:Nat}{c:Array Value}{t:Td}{S S':BS}(h:Bx1 w B c t S W)(he:Ev noB S W S' W'):Bx1 w B c t S' W':=⟨h.ev.trans he,he.blk h.b h.n (λh=>h),he.not h.b.lt h.n,h.l⟩
theorem Bx1.up {w W W':Wd}{B:Nat}{c:Array Value}{t:Td}{S:BS}(h:Bx1 w B c t S W)(hb:Below W.heap.size W W'):Bx1 w B c t S W':=h.evo (Ev.of_below h.ev.ok hb)
def FAt (B3:Nat)(ev:Vu)(px py:Int)(i:Nat)(v:Vu)(g:BS)(w:Wd):Prop :=
 match i with
 |0=>v=ev
 |1=>∃n,SL g w 215 v n/\n<=100
 |2=>v= .agg #[.int .i64 px,.int .i64 py]
 |3=>∃x b,v= .tuple #[.int .i64 x,.bool b]
 |4=>∃x,v= .int .i64 x
 |5=>∃b,v= .bool b
 |_=>False
theorem FAt.kept {B3:Nat}{ev:Vu}{px py:Int}{i:Nat}{v:Vu}{g g':BS}{w w':Wd}(h:FAt B3 ev px py i v g w)(hg:Ev noB g w g' w'):FAt B3 ev px py i v g' w':=by
 unfold FAt at *;split at h
 all_goals first|exact h|(obtain⟨n,h1,h2⟩:=h;exact⟨n,hg.sl h1,h2⟩)|(exact h)
abbrev a5g :=List (Nat×Array Value×TypeId)
abbrev SlL :=List (TypeId×Value×Nat)
structure DY (n₀ D:Nat)(sv:Vu)(xs:List Int)(S0:BS)(W0:Wd)(S:BS)(W:Wd)(L:a5g)(T:SlL):Prop where
 st:ST n₀ D sv xs S0 W0 S W
 bx:∀p∈L,Blk W p.1 p.2.1 p.2.2/\¬S p.1/\p.1≠D/\W0.heap.size<=p.1
 ne:(L.map (·.1)).Nodup
 sl:∀q∈T,SL S W q.1 q.2.1 q.2.2
section
variable {n₀ D:Nat}{sv:Vu}{xs:List Int}{S0 S S':BS}{W0 W W':Wd}{L:a5g}{T:SlL}{B B2 B3:Nat}{c c2 c3:Array Value}{t t2 t3:Td}{p:Nat×Array Value×TypeId}
theorem TD.dw (h:TD S n₀ D sv xs W):DY n₀ D sv xs S W S W [] []:=⟨h.st,λ_ h=>by simp at h,by simp,λ_ h=>by simp at h⟩
theorem DY.evo (h:DY n₀ D sv xs S0 W0 S W L T)(he:Ev noB S W S' W'):DY n₀ D sv xs S0 W0 S' W' L T :=
 ⟨h.st.evo he,λp hp=>by obtain⟨h1,h2,h3,h4⟩:=h.bx p hp;exact⟨he.blk h1 h2 (λh=>h),he.not h1.lt h2,h3,h4⟩,h.ne,λq hq=>he.sl (h.sl q hq)⟩
theorem DY.up (h:DY n₀ D sv xs S0 W0 S W L T)(hb:Below W.heap.size W W'):DY n₀ D sv xs S0 W0 S W' L T:=h.evo (Ev.of_below h.st.td.tw hb)
theorem DY.fresh (h:DY n₀ D sv xs S0 W0 S W L T)(hb:Below W.heap.size W W')(hB:W.heap.size<=B)(hk:Blk W' B c t):DY n₀ D sv xs S0 W0 S W' ((B,c,t)::L) T:=by
 have h1:=h.up hb;refine⟨h1.st,λp hp=> ?_,?_,h1.sl⟩
 ·rcases List.mem_cons.1 hp with rfl|hp
  ·exact⟨hk,λhs=>by have:=h.st.td.tw.lt hs;omega,λe=>by have:=h.st.td.lt;simp at e;omega,Nat.le_trans h.st.ev.size hB⟩
  ·exact h1.bx p hp
 ·exact ygv
theorem DY.box (h:DY n₀ D sv xs S0 W0 S W L T)(c:Array Value)(t:Td):DY n₀ D sv xs S0 W0 S (W.alloc (.cells c t)) ((W.heap.size,c,t)::L) T:=h.fresh ((zR _ _).alloc (yR _) _) (yR _) (Blk.new _ _ _)
theorem DY.cellT (h:DY n₀ D sv xs S0 W0 S W L T){c:Array Value}{e:Td}(hc:TB S W e c):DY n₀ D sv xs S0 W0 (λb=>S b\/b=W.heap.size) (W.alloc (.cells c e)) L T:=h.evo (Ev.alloc h.st.td.tw hc)
theorem DY.add (h:DY n₀ D sv xs S0 W0 S W L T){e:Td}{v:Vu}{n:Nat}(hv:SL S W e v n):DY n₀ D sv xs S0 W0 S W L ((e,v,n)::T):=⟨h.st,h.bx,h.ne,λq hq=>by
 rcases List.mem_cons.1 hq with rfl|hq
 ·exact hv
 ·exact h.sl q hq⟩
theorem DY.tail (h:DY n₀ D sv xs S0 W0 S W (p::L) T):DY n₀ D sv xs S0 W0 S W L T:=⟨h.st,λq hq=>h.bx q (List.mem_cons_of_mem _ hq),(List.nodup_cons.1 h.ne).2,h.sl⟩
theorem DY.tailT {q:TypeId×Value×Nat}(h:DY n₀ D sv xs S0 W0 S W L (q::T)):DY n₀ D sv xs S0 W0 S W L T:=⟨h.st,h.bx,h.ne,λq hq=>h.sl q (List.mem_cons_of_mem _ hq)⟩
theorem DY.swap {q:Nat×Array Value×TypeId}(h:DY n₀ D sv xs S0 W0 S W (p::q::L) T):DY n₀ D sv xs S0 W0 S W (q::p::L) T:=⟨h.st,λr hr=>h.bx r (by
 simp only[List.mem_cons]at hr ⊢;rcases hr with h|h|h
 ·exact .inr (.inl h)
 ·exact .inl h
 ·exact .inr (.inr h)),by
  have:=h.ne;simp only[List.map_cons,List.nodup_cons,List.mem_cons,not_or]at this ⊢;exact⟨⟨λe=>this.1.1 e.symm,this.2.1⟩,this.1.2,this.2.2⟩,h.sl⟩
theorem DY.call (h:DY n₀ D sv xs S0 W0 S W L T)(m:Int)(dy:1<=m)(b8:m<=4611686018427387904) :
 Calls prog 43 #[.pointer (some ⟨D,0,none⟩),.int .i64 m] W λe W'=>∃v,e= .returned (.int .i64 v)/\0<=v/\v<m/\DY n₀ D sv xs S0 W0 S W' L T:=by
 refine(h.st.call m dy b8).mono ?_;rintro e W'⟨v,rfl,h0,h1,h2,hg,h3⟩;exact⟨v,rfl,h0,h1,⟨h2,λp hp=>by
  obtain⟨k1,k2,k3,k4⟩:=h.bx p hp;exact⟨k1.kept hg (λe=>k3 (Option.some.inj e).symm),k2,k3,k4⟩,h.ne,λq hq=>h3.sl (h.sl q hq)⟩⟩
theorem DY.write (h:DY n₀ D sv xs S0 W0 S W ((B,c,t)::L) T)(hg:W.grownBy W' (some B))(hk:Blk W' B c2 t2):DY n₀ D sv xs S0 W0 S W' ((B,c2,t2)::L) T:=by
 obtain⟨jy,gy,dF,jc⟩:=h.bx _ (List.mem_cons_self ..);have aG:∀b,b≠B->b<W.heap.size->W'.heap[b]? =W.heap[b]? :=λb hb hl=>hg.block b hl (λe=>hb (Option.some.inj e))
 have bg:=h.st.ev.own hg (λr e=>by cases e;exact⟨gy,jc⟩);have ab:=h.st.td.lt;have o9:=h.st.lo;obtain⟨j,hj,hb⟩:=h.st.td.box;have aW:Below n₀ W W':=Below.of_grown hg (by have:=h.st.td.le;omega) (λq e=>by cases e;simp only at jc;omega);have cM:Shp S W W':=λb c e hb hc=>⟨c,(aG b (λe=>gy (by subst e;exact hb)) hc.lt).trans hc,rfl⟩
 refine⟨⟨⟨bg.ok,⟨j,hj,hb.kept hg (λe=>dF (Option.some.inj e))⟩,h.st.td.ints.below aW,h.st.td.le,h.st.td.len,h.st.td.low,h.st.td.not⟩,bg,o9⟩,λp hp=> ?_,?_,λq hq=>(h.sl q hq).mono (λ_ h=>h) cM⟩
 ·rcases List.mem_cons.1 hp with rfl|rm
  ·exact⟨hk,gy,dF,jc⟩
  ·obtain⟨k1,k2,k3,k4⟩:=h.bx p (List.mem_cons_of_mem _ rm)
   refine⟨k1.kept hg (λe=> ?_),k2,k3,k4⟩;exact yic
 ·exact h.ne
theorem DY.set (h:DY n₀ D sv xs S0 W0 S W ((B,c,t)::L) T)(i:Nat)(v:Vu){c':Array Value}(hc:c.setIfInBounds i v=c'):DY n₀ D sv xs S0 W0 S (W.setCell ⟨B,i,none⟩ v) ((B,c',t)::L) T :=
 h.write (a0u W B i v) (hc▸(h.bx _ (List.mem_cons_self ..)).1.set i v)
theorem DY.b0 (h:DY n₀ D sv xs S0 W0 S W ((B,c,t)::L) T):Blk W B c t:=(h.bx _ (List.mem_cons_self ..)).1
theorem DY.b1 (h:DY n₀ D sv xs S0 W0 S W (p::(B,c,t)::L) T):Blk W B c t:=h.tail.b0
theorem DY.b2 {p2:Nat×Array Value×TypeId}(h:DY n₀ D sv xs S0 W0 S W (p::p2::(B,c,t)::L) T):Blk W B c t:=h.tail.tail.b0
theorem DY.s0 {e:Td}{v:Vu}{n:Nat}(h:DY n₀ D sv xs S0 W0 S W L ((e,v,n)::T)):SL S W e v n:=h.sl _ (List.mem_cons_self ..)
theorem DY.s1 {q:TypeId×Value×Nat}{e:Td}{v:Vu}{n:Nat}(h:DY n₀ D sv xs S0 W0 S W L (q::(e,v,n)::T)):SL S W e v n:=h.tailT.s0
theorem DY.td (h:DY n₀ D sv xs S0 W0 S W L T):TD S n₀ D sv xs W:=h.st.td
theorem DY.tw (h:DY n₀ D sv xs S0 W0 S W L T):TW S W:=h.st.td.tw
theorem DY.then_ (h:DY n₀ D sv xs S0 W0 S W L T)(h1:TD S' n₀ D sv xs W')(h2:Ev (a7d D) S W S' W'):DY n₀ D sv xs S0 W0 S' W' L T :=
 ⟨h.st.then_ h1 h2,λp hp=>by
  obtain⟨k1,k2,k3,k4⟩:=h.bx p hp;exact⟨h2.blk k1 k2 k3,h2.not k1.lt k2,k3,k4⟩,h.ne,λq hq=>h2.sl (h.sl q hq)⟩
end
def Strs (c:Array Value):Prop:=∀u∈c.toList,∃s,u= .string s/\s.size<=30
theorem a6i (l:List ByteArray)(h:l.all (λs=>decide (s.size<=30))=true):Strs (l.map Value.string).toArray:=λu hu=>by
 simp only[List.mem_map]at hu;obtain⟨s,hs,rfl⟩:=hu;exact⟨s,rfl,of_decide_eq_true (List.all_eq_true.1 h s hs)⟩
theorem Strs.at_ {W:Wd}{B:Nat}{c:Array Value}{t:Td}(hs:Strs c)(h:Blk W B c t){q:Nat}(hq:q<c.size):∃s,W.cell? ⟨B,q,none⟩=some (.string s)/\s.size<=30:=by
 obtain⟨s,hx,h2⟩:=hs (c[q]'hq) vM;exact⟨s,by rw[h.cell,Array.getElem?_eq_getElem hq,hx],h2⟩
theorem a4h {W:Wd}{B:Nat}{a b c d e f g i:Vu}{t:Td}(h:Blk W B #[a,b,c,d,e,f,g,i] t):W.cell? ⟨B,0,none⟩=some a/\W.cell? ⟨B,1,none⟩=some b/\W.cell? ⟨B,2,none⟩=some c/\W.cell? ⟨B,3,none⟩=some d/\W.cell? ⟨B,4,none⟩=some e/\W.cell? ⟨B,5,none⟩=some f/\W.cell? ⟨B,6,none⟩=some g/\W.cell? ⟨B,7,none⟩=some i :=
 ⟨h.cell 0,h.cell 1,h.cell 2,h.cell 3,h.cell 4,h.cell 5,h.cell 6,h.cell 7⟩
theorem a1o {W:Wd}{B:Nat}{a b c d:Vu}{t:Td}(h:Blk W B #[a,b,c,d] t):W.cell? ⟨B,0,none⟩=some a/\W.cell? ⟨B,1,none⟩=some b/\W.cell? ⟨B,2,none⟩=some c/\W.cell? ⟨B,3,none⟩=some d :=
 ⟨h.cell 0,h.cell 1,h.cell 2,h.cell 3⟩
abbrev b6u (id:Int)(lv:Vu)(cF:Int)(cs ns:Bw)(st:Bool)(wt ds:Int):Array Value:= #[.int .i64 id,lv,.int .i64 cF,.string cs,.string ns,.bool st,.int .i64 wt,.int .i64 ds]
theorem b9z {S:BS}{W:Wd}{id cF wt ds:Int}{cs ns:Bw}{st:Bool}{v:Vu}{n:Nat}(h0:a0l id)(h2:a0l cF)(h3:cs.size<=30)(h4:ns.size<=30)(h6:a0l wt)(h7:a0l ds)(hv:SL S W 41 v n)(hn:n<=100):TB S W 46 (b6u id v cF cs ns st wt ds):=b4p rfl rfl λi u ct k1 k2=>by
 match i,k1,k2 with
 |0,k1,k2=>cases k1;cases k2;exact CT.ok_int h0
 |1,k1,k2=>cases k1;cases k2;exact CT.ok_sl hv hn
 |2,k1,k2=>cases k1;cases k2;exact CT.ok_int h2
 |3,k1,k2=>cases k1;cases k2;exact CT.ok_str h3
 |4,k1,k2=>cases k1;cases k2;exact CT.ok_str h4
 |5,k1,k2=>cases k1;cases k2;exact CT.ok_bool _
 |6,k1,k2=>cases k1;cases k2;exact CT.ok_int h6
 |7,k1,k2=>cases k1;cases k2;exact CT.ok_int h7
 |i+8,k1,_=>simp at k1
theorem DY.put {n₀ D:Nat}{sv:Vu}{xs:List Int}{S0 S:BS}{W0 W W':Wd}{L:a5g}{T:SlL}{B i:Nat}{c c':Array Value}{v:Vu}{t:Td}(h:DY n₀ D sv xs S0 W0 S W ((B,c,t)::L) T)(hW:W'=W.setCell ⟨B,i,none⟩ v)(hc:c.setIfInBounds i v=c'):DY n₀ D sv xs S0 W0 S W' ((B,c',t)::L) T:=hW▸h.set i v hc
def FWy (wr:Wd)(B6 B7 k M:Nat)(ax ay bx by_:Int)(i:Nat)(v:Vu)(w:Wd):Prop :=
 match i with
 |0=>v= .pointer (some ⟨B6,0,none⟩)
 |1=>v= .int .i64 ax
 |2=>v= .pointer (some ⟨B7,0,none⟩)
 |3=>v= .int .i64 bx
 |4=>v= .pointer (some ⟨B6,0,none⟩)
 |5=>v= .int .i64 ax
 |6=>∃x,v= .int .i64 x/\a0l x
 |7=>v= .int .i64 (k:Nat)
 |8=>∃x,v= .int .i64 x/\a0l x
 |9=>v= .int .i64 (M:Nat)
 |10=>v= .int .i64 ((M:Nat)+1)
 |11=>∃x,v= .int .i64 x/\a0l x
 |12=>∃x,v= .int .i64 x/\a0l x
 |13=>v= .pointer (some ⟨B6,1,none⟩)
 |14=>v= .int .i64 ay
 |15=>v= .pointer (some ⟨B7,1,none⟩)
 |16=>v= .int .i64 by_
 |17=>v= .pointer (some ⟨B6,1,none⟩)
 |18=>v= .int .i64 ay
 |19=>∃x,v= .int .i64 x/\a0l x
 |20=>v= .int .i64 (k:Nat)
 |21=>∃x,v= .int .i64 x/\a0l x
 |22=>v= .int .i64 (M:Nat)
 |23=>v= .int .i64 ((M:Nat)+1)
 |24=>∃x,v= .int .i64 x/\a0l x
 |25=>∃x,v= .int .i64 x/\a0l x
 |26=>∃X Y,v= .agg #[.int .i64 X,.int .i64 Y]/\a0l X/\a0l Y
 |27=>∃B,v= .pointer (some ⟨B,0,none⟩)/\wr.heap.size<=B/\Blk w B #[.int .i64 0,.int .i64 0] 41
 |_=>False
theorem FWy.kept {wr:Wd}{B6 B7 k M:Nat}{ax ay bx by_:Int}{i:Nat}{v:Vu}{w w':Wd}(h:FWy wr B6 B7 k M ax ay bx by_ i v w)(hg:Below w.heap.size w w'):FWy wr B6 B7 k M ax ay bx by_ i v w':=by
 unfold FWy at *;exact yin
theorem DY.fin {n₀ D:Nat}{sv:Vu}{xs:List Int}{S S':BS}{w W1 W':Wd}{L:a5g}{T:SlL}(h:DY n₀ D sv xs S W1 S' W' L T)(h0:Ev noB S w S W1)(hD:w.heap.size<=D):Ev noB S w S' W':=h0.wide h.st.ev (λb hb=>by cases hb;exact hD)
theorem TD.new {S:BS}{w:Wd}{n₀:Nat}{sv:Vu}{xs:List Int}(hT:TW S w)(dv:∀b,S b->n₀<=b)(hn:n₀<=w.heap.size)(hI:Intz n₀ w sv xs):TD S n₀ w.heap.size sv xs (w.alloc (.cells #[sv,.int .i64 0] 112)):=by
 have hb:Below w.heap.size w (w.alloc (.cells #[sv,.int .i64 0] 112)):=(zR _ _).alloc (yR _) _;exact⟨(Ev.of_below (X:=noB) hT hb).ok,⟨0,Nat.zero_le _,Blk.new _ _ _⟩,hI.ints.below (hb.mono hn),hn,hI.len,dv,λh=>Nat.lt_irrefl _ (hT.lt h)⟩
structure OW (S0:BS)(W0:Wd)(S:BS)(W:Wd)(L:a5g)(T:SlL):Prop where
 ev:Ev noB S0 W0 S W
 bx:∀p∈L,Blk W p.1 p.2.1 p.2.2/\¬S p.1/\W0.heap.size<=p.1
 ne:(L.map (·.1)).Nodup
 sl:∀q∈T,SL S W q.1 q.2.1 q.2.2
section
variable {n₀ D:Nat}{sv:Vu}{xs:List Int}{S0 S S':BS}{W0 W W':Wd}{L:a5g}{T:SlL}{B i:Nat}{c c2 c':Array Value}{t t2:Td}{p:Nat×Array Value×TypeId}
theorem OW.init (hT:TW S W):OW S W S W [] []:=⟨Ev.refl hT,λ_ h=>by simp at h,by simp,λ_ h=>by simp at h⟩
theorem OW.tw (h:OW S0 W0 S W L T):TW S W:=h.ev.ok
theorem OW.evo (h:OW S0 W0 S W L T)(he:Ev noB S W S' W'):OW S0 W0 S' W' L T :=
 ⟨h.ev.trans he,λp hp=>by obtain⟨h1,h2,h3⟩:=h.bx p hp;exact⟨he.blk h1 h2 (λh=>h),he.not h1.lt h2,h3⟩,h.ne,λq hq=>he.sl (h.sl q hq)⟩
theorem OW.up (h:OW S0 W0 S W L T)(hb:Below W.heap.size W W'):OW S0 W0 S W' L T:=h.evo (Ev.of_below h.tw hb)
theorem OW.fresh (h:OW S0 W0 S W L T)(hb:Below W.heap.size W W')(hB:W.heap.size<=B)(hk:Blk W' B c t):OW S0 W0 S W' ((B,c,t)::L) T:=by
 have h1:=h.up hb;refine⟨h1.ev,λp hp=> ?_,?_,h1.sl⟩
 ·rcases List.mem_cons.1 hp with rfl|hp
  ·exact⟨hk,λhs=>by have:=h.tw.lt hs;omega,Nat.le_trans h.ev.size hB⟩
  ·exact h1.bx p hp
 ·exact ygv
theorem OW.box (h:OW S0 W0 S W L T)(c:Array Value)(t:Td):OW S0 W0 S (W.alloc (.cells c t)) ((W.heap.size,c,t)::L) T:=h.fresh ((zR _ _).alloc (yR _) _) (yR _) (Blk.new _ _ _)
theorem OW.add (h:OW S0 W0 S W L T){e:Td}{v:Vu}{n:Nat}(hv:SL S W e v n):OW S0 W0 S W L ((e,v,n)::T):=⟨h.ev,h.bx,h.ne,λq hq=>by
 rcases List.mem_cons.1 hq with rfl|hq
 ·exact hv
 ·exact h.sl q hq⟩
theorem OW.tail (h:OW S0 W0 S W (p::L) T):OW S0 W0 S W L T:=⟨h.ev,λq hq=>h.bx q (List.mem_cons_of_mem _ hq),(List.nodup_cons.1 h.ne).2,h.sl⟩
theorem OW.tailT {q:TypeId×Value×Nat}(h:OW S0 W0 S W L (q::T)):OW S0 W0 S W L T:=⟨h.ev,h.bx,h.ne,λq hq=>h.sl q (List.mem_cons_of_mem _ hq)⟩
theorem OW.swap {q:Nat×Array Value×TypeId}(h:OW S0 W0 S W (p::q::L) T):OW S0 W0 S W (q::p::L) T:=⟨h.ev,λr hr=>h.bx r (by
 simp only[List.mem_cons]at hr ⊢;rcases hr with h|h|h
 ·exact .inr (.inl h)
 ·exact .inl h
 ·exact .inr (.inr h)),by
  have:=h.ne;simp only[List.map_cons,List.nodup_cons,List.mem_cons,not_or]at this ⊢;exact⟨⟨λe=>this.1.1 e.symm,this.2.1⟩,this.1.2,this.2.2⟩,h.sl⟩
theorem OW.write (h:OW S0 W0 S W ((B,c,t)::L) T)(hg:W.grownBy W' (some B))(hk:Blk W' B c2 t2):OW S0 W0 S W' ((B,c2,t2)::L) T:=by
 obtain⟨jy,gy,jc⟩:=h.bx _ (List.mem_cons_self ..);have aG:∀b,b≠B->b<W.heap.size->W'.heap[b]? =W.heap[b]? :=λb hb hl=>hg.block b hl (λe=>hb (Option.some.inj e))
 have bg:=h.ev.own hg (λr e=>by cases e;exact⟨gy,jc⟩);have cM:Shp S W W':=λb c e hb hc=>⟨c,(aG b (λe=>gy (by subst e;exact hb)) hc.lt).trans hc,rfl⟩
 refine⟨bg,λp hp=> ?_,h.ne,λq hq=>(h.sl q hq).mono (λ_ h=>h) cM⟩;rcases List.mem_cons.1 hp with rfl|rm
 ·exact⟨hk,gy,jc⟩
 ·obtain⟨k1,k2,k4⟩:=h.bx p (List.mem_cons_of_mem _ rm)
  refine⟨k1.kept hg (λe=> ?_),k2,k4⟩;exact yic
theorem OW.set (h:OW S0 W0 S W ((B,c,t)::L) T)(i:Nat)(v:Vu)(hc:c.setIfInBounds i v=c'):OW S0 W0 S (W.setCell ⟨B,i,none⟩ v) ((B,c',t)::L) T :=
 h.write (a0u W B i v) (hc▸(h.bx _ (List.mem_cons_self ..)).1.set i v)
theorem OW.put {v:Vu}(h:OW S0 W0 S W ((B,c,t)::L) T)(hW:W'=W.setCell ⟨B,i,none⟩ v)(hc:c.setIfInBounds i v=c'):OW S0 W0 S W' ((B,c',t)::L) T:=hW▸h.set i v hc
theorem OW.b0 (h:OW S0 W0 S W ((B,c,t)::L) T):Blk W B c t:=(h.bx _ (List.mem_cons_self ..)).1
theorem OW.b1 (h:OW S0 W0 S W (p::(B,c,t)::L) T):Blk W B c t:=h.tail.b0
theorem OW.s0 {e:Td}{v:Vu}{n:Nat}(h:OW S0 W0 S W L ((e,v,n)::T)):SL S W e v n:=h.sl _ (List.mem_cons_self ..)
theorem OW.s1 {q:TypeId×Value×Nat}{e:Td}{v:Vu}{n:Nat}(h:OW S0 W0 S W L (q::(e,v,n)::T)):SL S W e v n:=h.tailT.s0
theorem OW.s2 {q q2:TypeId×Value×Nat}{e:Td}{v:Vu}{n:Nat}(h:OW S0 W0 S W L (q::q2::(e,v,n)::T)):SL S W e v n:=h.tailT.tailT.s0
theorem OW.low (h:OW noB W0 S W L T):Below W0.heap.size W0 W:=h.ev.low
end
def FMa (ev sv:Vu)(ci j N H E:Nat)(i:Nat)(v:Vu)(g:BS)(w:Wd):Prop :=
 match i with
 |0=>v=ev
 |1=>v=sv
 |2=>v= .int .i64 (ci:Nat)
 |3=>v= .int .i64 (j:Nat)
 |4=>Pt2 v
 |5=>v=sv
 |6=>v= .int .i64 (ci:Nat)
 |7=>v= .int .i64 ((ci:Nat)+1)
 |8=>v= .int .i64 (j:Nat)
 |9=>Pt2 v
 |10=>v= .pointer (some ⟨E,0,none⟩)
 |11=>∃n,SL g w 41 v n/\n<=6
 |12=>Six v
 |13=>v= .int .i64 (1+(N:Nat))
 |14=>v= .int .i64 (H:Nat)
 |15=>v= .int .i64 (ci:Nat)
 |16=>v= .int .i64 (j:Nat)
 |17=>c6x v
 |18=>Six v
 |19=>v= .int .i64 (1+(N:Nat))
 |20=>v= .int .i64 (H:Nat)
 |21=>v= .int .i64 (ci:Nat)
 |22=>v= .int .i64 (j:Nat)
 |23=>v= .int .i64 ((j:Nat)-1)
 |24=>c6x v
 |25=>v= .pointer (some ⟨E,0,none⟩)
 |_=>False
theorem FMa.kept {ev sv:Vu}{ci j N H E:Nat}{i:Nat}{v:Vu}{g g':BS}{w w':Wd}(h:FMa ev sv ci j N H E i v g w)(hg:Ev (a7d E) g w g' w'):FMa ev sv ci j N H E i v g' w':=by
 unfold FMa at *;exact yjk
def FMb (ev sv:Vu)(ci j N H E:Nat)(i:Nat)(v:Vu)(g:BS)(w:Wd):Prop :=
 match i with
 |0=>v=ev
 |1=>v=sv
 |2=>v= .int .i64 (ci:Nat)
 |3=>v= .int .i64 (j:Nat)
 |4=>Pt2 v
 |5=>v=sv
 |6=>v= .int .i64 (ci:Nat)
 |7=>v= .int .i64 (j:Nat)
 |8=>v= .int .i64 ((j:Nat)+1)
 |9=>Pt2 v
 |10=>v= .pointer (some ⟨E,0,none⟩)
 |11=>∃n,SL g w 41 v n/\n<=6
 |12=>Six v
 |13=>v= .int .i64 (1+(N:Nat))
 |14=>v= .int .i64 (H:Nat)
 |15=>v= .int .i64 (ci:Nat)
 |16=>v= .int .i64 ((ci:Nat)-1)
 |17=>v= .int .i64 (j:Nat)
 |18=>c6x v
 |19=>Six v
 |20=>v= .int .i64 (1+(N:Nat))
 |21=>v= .int .i64 (H:Nat)
 |22=>v= .int .i64 (ci:Nat)
 |23=>v= .int .i64 (j:Nat)
 |24=>c6x v
 |25=>v= .pointer (some ⟨E,0,none⟩)
 |_=>False
theorem FMb.kept {ev sv:Vu}{ci j N H E:Nat}{i:Nat}{v:Vu}{g g':BS}{w w':Wd}(h:FMb ev sv ci j N H E i v g w)(hg:Ev (a7d E) g w g' w'):FMb ev sv ci j N H E i v g' w':=by
 unfold FMb at *;exact yjk
theorem Mat.take {n₀:Nat}{W:Wd}{a:Option Addr}{cap:Nat}{rows:List (Value×List Int)}(h:Mat n₀ W (.slice a rows.length cap) rows)(m:Nat)(hm:m<=rows.length):Mat n₀ W (.slice a m cap) (rows.take m):=by
 obtain⟨a',bk,e,hc,hr⟩:=h
 cases e;refine⟨a,cap,by rw[List.length_take,Nat.min_eq_left hm],by rw[List.length_take];omega,λj hj=> ?_⟩;rw[List.length_take]at hj;rw[List.getElem_take];exact hr j xM
section
variable {α:Type}{E:El α}{P:Program}{st:Td}{w:Wd}{l:List α}
theorem El.pushO (hE:E.Ok)(hI:E.In P st){ops:Array Oper}{rest:List Oper}{o:Oper}{a:Act}{Q:Exit->Act->World->Prop}(bP:o.guard=none)(sO xO:Operand)(ho:o.op= .call { callee:= .builtin .append,args:= #[sO,xO],argTypes:= #[st,st] })
 {base:Nat} {v:Vu} (hs:a.eval sO=v) (ag:w.ownsRow base E.t E.s v l.length (l.flatMap E.enc)) (x:α) {H:Nat} (hx:a.eval xO= .slice (some ⟨H,0,none⟩) 1 1) (hH:w.heap.size=H) (dz:base<=w.heap.size) (hl:l.length<=100000)
 (h:∀v' w',w'.ownsRow base E.t E.s v' (l++[x]).length ((l++[x]).flatMap E.enc)->(∀g,v'.ownBlock=some g->v.ownBlock=some g\/w.heap.size<=g)->w.grownBy w' v.ownBlock->Below base w w'->wpList P ops Q rest (a.put o.dst v') w') :
 wpList P ops Q (o::rest) a (w.alloc (.cells (E.enc x).toArray E.t)):=by
 subst hH;obtain⟨i,z,hi,hz,aM,mq,fI⟩:=hI.info;have hlen:=hE.len x;refine wpList_append_lies _ bP sO xO st ho base E.t i z E.s i.bytes hI.under hi hz aM rfl fI hE.pos v l.length _ hs (ag.alloc _) ⟨w.heap.size,0,none⟩ 1 1 (E.enc x) hx (by rw[hlen,Nat.one_mul]) (World.news_of_block (heap_alloc_new _ _)) (hE.one x) xM gM (Nat.le_trans (Nat.mul_le_mul (Nat.add_le_add_right hl 1) mq) jM) uM _ rfl ?_;intro g cap w' aA hg cG ab;have dL:w.grownBy w' v.ownBlock:=by
  exact yco
 refine h _ w' ?_ (λg' e=> ?_) dL ⟨dL.os,dL.tape,dL.output,dL.size,λk hk=>dL.block k xM (λe=> ?_)⟩
 ·simpa[List.flatMap_append]using aA
 ·simp only[Value.ownBlock,Option.some.injEq]at e
  subst e;rcases cG with h1|h1
  ·exact .inl h1
  ·right
   rw[h1];simp
 ·have:=(ag.lt k e.symm).1
  omega
end
theorem DY.callG {n₀ D:Nat}{sv:Vu}{xs:List Int}{S0 S:BS}{W0 W:Wd}{L:a5g}{T:SlL}(h:DY n₀ D sv xs S0 W0 S W L T)(m:Int)(dy:1<=m)(b8:m<=4611686018427387904) :
 Calls prog 43 #[.pointer (some ⟨D,0,none⟩),.int .i64 m] W λe W'=>∃v,e= .returned (.int .i64 v)/\0<=v/\v<m/\DY n₀ D sv xs S0 W0 S W' L T/\W.grownBy W' (some D):=by
 refine(h.st.call m dy b8).mono ?_;rintro e W'⟨v,rfl,h0,h1,h2,hg,h3⟩;exact⟨v,rfl,h0,h1,⟨h2,λp hp=>by
  obtain⟨k1,k2,k3,k4⟩:=h.bx p hp;exact⟨k1.kept hg (λe=>k3 (Option.some.inj e).symm),k2,k3,k4⟩,h.ne,λq hq=>h3.sl (h.sl q hq)⟩,hg⟩
theorem DY.other {n₀ D:Nat}{sv:Vu}{xs:List Int}{S0 S:BS}{W0 W W':Wd}{L:a5g}{T:SlL}{o:Option Nat}(h:DY n₀ D sv xs S0 W0 S W L T)(hg:W.grownBy W' o)(ho:∀g,o=some g->¬S g/\g≠D/\W0.heap.size<=g/\∀p∈L,p.1≠g):DY n₀ D sv xs S0 W0 S W' L T:=by
 have aG:∀b,S b->W'.heap[b]? =W.heap[b]? :=λb hb=>hg.block b (h.tw.lt hb) (λe=>(ho b e.symm).1 hb)
 have bg:=h.st.ev.own hg (λr e=>⟨(ho r e).1,(ho r e).2.2.1⟩);have ab:=h.st.td.lt;have o9:=h.st.lo;obtain⟨j,hj,hb⟩:=h.st.td.box;have aW:Below n₀ W W':=Below.of_grown hg (by have:=h.st.td.le;omega) (λq e=>by have:=(ho q e).2.2.1;omega);have cM:Shp S W W':=λb c e hb hc=>⟨c,(aG b hb).trans hc,rfl⟩
 refine⟨⟨⟨bg.ok,⟨j,hj,hb.kept hg (λe=>(ho D e).2.1 rfl)⟩,h.st.td.ints.below aW,h.st.td.le,h.st.td.len,h.st.td.low,h.st.td.not⟩,bg,o9⟩,λp hp=> ?_,h.ne,λq hq=>(h.sl q hq).mono (λ_ h=>h) cM⟩;obtain⟨k1,k2,k3,k4⟩:=h.bx p hp;exact⟨k1.kept hg (λe=>(ho p.1 e).2.2.2 p hp rfl),k2,k3,k4⟩
structure DP (n₀ D:Nat)(sv:Vu)(xs:List Int)(S0:BS)(W0:Wd)(S:BS)(W:Wd)(L:a5g)(T:SlL)(ov:Vu)(l:List Pc):Prop where
 d:DY n₀ D sv xs S0 W0 S W L T
 row:W.ownsRow W0.heap.size 48 7 ov l.length (l.flatMap plE.enc)
 off:∀g,ov.ownBlock=some g->¬S g/\g≠D/\∀p∈L,p.1≠g
section
variable {n₀ D:Nat}{sv:Vu}{xs:List Int}{S0 S S':BS}{W0 W W':Wd}{L:a5g}{T:SlL}{B i:Nat}{c c':Array Value}{t:Td}{ov v:Vu}{l:List Pc}{p:Nat×Array Value×TypeId}
theorem DP.call (h:DP n₀ D sv xs S0 W0 S W L T ov l)(m:Int)(dy:1<=m)(b8:m<=4611686018427387904) :
 Calls prog 43 #[.pointer (some ⟨D,0,none⟩),.int .i64 m] W λe W'=>∃v,e= .returned (.int .i64 v)/\0<=v/\v<m/\DP n₀ D sv xs S0 W0 S W' L T ov l:=by
 refine(h.d.callG m dy b8).mono ?_;rintro e W'⟨v,rfl,h0,h1,h2,hg⟩;refine⟨v,rfl,h0,h1,h2,h.row.kept hg ?_,h.off⟩
 cases hp:ov.ownBlock with
 |none=>exact .inl rfl
 |some g=>exact .inr (λe=>(h.off g hp).2.1 (Option.some.inj e))
theorem DP.up (h:DP n₀ D sv xs S0 W0 S W L T ov l)(hb:Below W.heap.size W W'):DP n₀ D sv xs S0 W0 S W' L T ov l:=⟨h.d.up hb,a0c h.row hb,h.off⟩
theorem DP.box (h:DP n₀ D sv xs S0 W0 S W L T ov l)(c:Array Value)(t:Td):DP n₀ D sv xs S0 W0 S (W.alloc (.cells c t)) ((W.heap.size,c,t)::L) T ov l :=
 ⟨h.d.box c t,h.row.alloc _,λg hg=>by
  obtain⟨h1,h2,h3⟩:=h.off g hg;refine⟨h1,h2,λp hp=> ?_⟩;rcases List.mem_cons.1 hp with rfl|hp
  ·have:=(h.row.lt g hg).2
   intro e;simp only at e;omega
  ·exact h3 p hp⟩
theorem DP.put (h:DP n₀ D sv xs S0 W0 S W ((B,c,t)::L) T ov l)(hW:W'=W.setCell ⟨B,i,none⟩ v)(hc:c.setIfInBounds i v=c'):DP n₀ D sv xs S0 W0 S W' ((B,c',t)::L) T ov l:=by
 refine⟨h.d.put hW hc,?_,λg hg=> ?_⟩
 ·rw[hW]
  refine h.row.kept (a0u W B i v) ?_
  cases hp:ov.ownBlock with
  |none=>exact .inl rfl
  |some g=>exact .inr (λe=>(h.off g hp).2.2 _ (List.mem_cons_self ..) (Option.some.inj e).symm)
 ·obtain⟨h1,h2,h3⟩:=h.off g hg
  refine⟨h1,h2,λp hp=> ?_⟩;rcases List.mem_cons.1 hp with rfl|hp
  ·exact h3 (B,c,t) (List.mem_cons_self ..)
  ·exact h3 p (List.mem_cons_of_mem _ hp)
theorem DP.tail (h:DP n₀ D sv xs S0 W0 S W (p::L) T ov l):DP n₀ D sv xs S0 W0 S W L T ov l:=⟨h.d.tail,h.row,λg hg=>⟨(h.off g hg).1,(h.off g hg).2.1,λp hp=>(h.off g hg).2.2 p (List.mem_cons_of_mem _ hp)⟩⟩
theorem DP.more {l':List Pc}(h:DP n₀ D sv xs S0 W0 S W L T ov l)(hr:W'.ownsRow W0.heap.size 48 7 v l'.length (l'.flatMap plE.enc))(hg:W.grownBy W' ov.ownBlock)(hn:∀g,v.ownBlock=some g->ov.ownBlock=some g\/W.heap.size<=g):DP n₀ D sv xs S0 W0 S W' L T v l':=by
 refine⟨h.d.other hg (λg e=>⟨(h.off g e).1,(h.off g e).2.1,(h.row.lt g e).1,(h.off g e).2.2⟩),hr,λg e=> ?_⟩;rcases hn g e with h1|h1
 ·exact h.off g h1
 ·exact⟨λhs=>by have:=h.d.tw.lt hs;omega,λe2=>by have:=h.d.td.lt;omega,λp hp e2=>by have:=(h.d.bx p hp).1.lt;omega⟩
end
structure PlsOk (l:List Pc):Prop where
 id:∀(k:Nat) p,l[k]? =some p->p.id=61+(k:Int)
 ok:∀p∈l,PcOk p
 cl:∀p∈l,p.cls.size<=1000
theorem PlsOk.nil :PlsOk []:=⟨λk p h=>by simp at h,λp h=>by simp at h,λp h=>by simp at h⟩
theorem PlsOk.push {l:List Pc}{p:Pc}(h:PlsOk l)(hp:PcOk p)(hc:p.cls.size<=1000)(hi:p.id=61+(l.length:Int)):PlsOk (l++[p]):=by
 refine⟨λk q hq=> ?_,λq hq=> ?_,λq hq=> ?_⟩
 ·by_cases hk:k<l.length
  ·rw[List.getElem?_append_left hk]at hq
   exact h.id k q hq
  ·rw[List.getElem?_append_right xM]at hq
   have p9:k=l.length:=by
    have:=(List.getElem?_eq_some_iff.1 hq).1;simp at this;omega
   subst p9;simp at hq;subst hq;exact hi
 ·rcases List.mem_append.1 hq with h1|h1
  ·exact h.ok q h1
  ·rw[List.mem_singleton.1 h1]
   exact hp
 ·rcases List.mem_append.1 hq with h1|h1
  ·exact h.cl q h1
  ·rw[List.mem_singleton.1 h1]
   exact hc
theorem a4a {b:Act}{k:Nat}{v:Vu}(h:b.tmps[k]?.getD undef=v):b.eval (.tmp k)=v:=by
 simpa[Act.eval]using h
def Own (n:Nat)(v:Vu):Prop:=∀a k c,v= .slice (some a) k c->n<=a.block
theorem b0o (n:Nat):Own n (.slice none 0 0):=λ_ _ _ e=>by cases e
theorem a4z {base b:Nat}(hb:base<=b):∀(vs:List Value) (o:Nat) (W:Wd),base<=W.heap.size->Below base W (W.setCells b o vs)
 |[],_,_,_=>zR _ _
 |v::vs,o,W,hW=>by
  have h1:Below base W (W.setCell ⟨b,o,none⟩ v):=(zR _ W).grown (a0u W b o v) hW (λq e=>by cases e;exact hb);have h2:=a4z hb vs (o+1) (W.setCell ⟨b,o,none⟩ v) (by simpa using hW);exact h1.trans h2
theorem a6j {X S:BS}{W:Wd}(hT:TW S W){t e ty:Td}{s:Nat}(ht:prog.underlying t=some (.slice e))(he:ET e s){sv xv:Vu}{n m:Nat}(hv:SL S W e sv n)(hx:SL S W e xv m)(hl:n+m<=1000000){base:Nat}(dz:base<=W.heap.size)(aA:Own base sv) :
 ∃v' S' W',(Builtin.append_ #[t,t] ty #[sv,xv]).run prog W= .ok v' W'/\SL S' W' e v' (n+m)/\Ev X S W S' W'/\Below base W W'/\Own base v':=by
 obtain⟨i,z,hi,hz,aM,mq,fI,CX⟩:=he.info;have hp:=he.pos;have jP:=he.size;obtain⟨xa,xc,news,rfl,Im,pQ,sI,sG,ck,vy⟩:=hx.cells hT he;exact yac
theorem CT.ok.flat {U S:BS}{W:Wd}{ct:CT}{u:Vu}(h:ct.ok U W u)(hk:ct.k≠3):ct.ok S W u:=⟨h.lt,h.i,h.s,h.b,λe=>absurd e hk,h.a⟩
theorem b4r {X S U:BS}{W:Wd}(hT:TW S W)(hU:TW U W){t e ty:Td}{s:Nat}(ht:prog.underlying t=some (.slice e))(he:ET e s){sv xv:Vu}{n m:Nat}(hv:SL S W e sv n)(hx:SL U W e xv m)(tf:∀ct∈a2g e,ct.k≠3)(hl:n+m<=1000000){base:Nat}(dz:base<=W.heap.size)(aA:Own base sv) :
 ∃v' S' W',(Builtin.append_ #[t,t] ty #[sv,xv]).run prog W= .ok v' W'/\SL S' W' e v' (n+m)/\Ev X S W S' W'/\Below base W W'/\Own base v':=by
 obtain⟨i,z,hi,hz,aM,mq,fI,CX⟩:=he.info;have hp:=he.pos;have jP:=he.size;obtain⟨xa,xc,news,rfl,Im,pQ,sI,sG,ck,vy⟩:=hx.cells hU he;replace sG:∀j u ct,news[j]? =some u->(a2g e)[j % s]? =some ct->ct.ok S W u:=λj u ct h1 h2=>(sG j u ct h1 h2).flat (tf ct (List.mem_of_getElem? h2))
 exact yac
structure OY (S0:BS)(W0:Wd)(S:BS)(W:Wd)(L:a5g)(T:SlL):Prop where
 o:OW S0 W0 S W L T
 bel:Below W0.heap.size W0 W
section
variable {S0 S S':BS}{W0 W W':Wd}{L:a5g}{T:SlL}{B i:Nat}{c c2 c':Array Value}{t t2 e:Td}{p:Nat×Array Value×TypeId}{v:Vu}{n:Nat}
theorem OY.init (hT:TW S W):OY S W S W [] []:=⟨OW.init hT,zR _ _⟩
theorem OY.tw (h:OY S0 W0 S W L T):TW S W:=h.o.tw
theorem OY.size (h:OY S0 W0 S W L T):W0.heap.size<=W.heap.size:=h.bel.size
theorem OY.evo (h:OY S0 W0 S W L T)(he:Ev noB S W S' W')(hb:Below W0.heap.size W W'):OY S0 W0 S' W' L T:=⟨h.o.evo he,h.bel.trans hb⟩
theorem OY.up (h:OY S0 W0 S W L T)(hb:Below W.heap.size W W'):OY S0 W0 S W' L T:=⟨h.o.up hb,h.bel.trans (hb.mono h.size)⟩
theorem OY.drew (h:OY S0 W0 S W L T):OY S0 W0 S W.drew L T:=h.up (zR _ _).drew
theorem OY.fresh (h:OY S0 W0 S W L T)(hb:Below W.heap.size W W')(hB:W.heap.size<=B)(hk:Blk W' B c t):OY S0 W0 S W' ((B,c,t)::L) T:=⟨h.o.fresh hb hB hk,h.bel.trans (hb.mono h.size)⟩
theorem OY.box (h:OY S0 W0 S W L T)(c:Array Value)(t:Td):OY S0 W0 S (W.alloc (.cells c t)) ((W.heap.size,c,t)::L) T:=h.fresh ((zR _ _).alloc (yR _) _) (yR _) (Blk.new _ _ _)
theorem OY.cellT (h:OY S0 W0 S W L T){c:Array Value}{e:Td}(hc:TB S W e c):OY S0 W0 (λb=>S b\/b=W.heap.size) (W.alloc (.cells c e)) L T:=h.evo (Ev.alloc h.tw hc) ((zR _ _).alloc h.size _)
theorem OY.add (h:OY S0 W0 S W L T){e:Td}{v:Vu}{n:Nat}(hv:SL S W e v n):OY S0 W0 S W L ((e,v,n)::T):=⟨h.o.add hv,h.bel⟩
theorem OY.tail (h:OY S0 W0 S W (p::L) T):OY S0 W0 S W L T:=⟨h.o.tail,h.bel⟩
theorem OY.tailT {q:TypeId×Value×Nat}(h:OY S0 W0 S W L (q::T)):OY S0 W0 S W L T:=⟨h.o.tailT,h.bel⟩
theorem OY.swap {q:Nat×Array Value×TypeId}(h:OY S0 W0 S W (p::q::L) T):OY S0 W0 S W (q::p::L) T:=⟨h.o.swap,h.bel⟩
theorem OY.set (h:OY S0 W0 S W ((B,c,t)::L) T)(i:Nat)(v:Vu)(hc:c.setIfInBounds i v=c'):OY S0 W0 S (W.setCell ⟨B,i,none⟩ v) ((B,c',t)::L) T :=
 ⟨h.o.set i v hc,h.bel.grown (a0u W B i v) h.size (λq e=>by cases e;exact(h.o.bx _ (List.mem_cons_self ..)).2.2)⟩
theorem OY.put {v:Vu}(h:OY S0 W0 S W ((B,c,t)::L) T)(hW:W'=W.setCell ⟨B,i,none⟩ v)(hc:c.setIfInBounds i v=c'):OY S0 W0 S W' ((B,c',t)::L) T:=hW▸h.set i v hc
theorem OY.b0 (h:OY S0 W0 S W ((B,c,t)::L) T):Blk W B c t:=h.o.b0
theorem OY.b1 (h:OY S0 W0 S W (p::(B,c,t)::L) T):Blk W B c t:=h.o.b1
theorem OY.b2 {p2:Nat×Array Value×TypeId}(h:OY S0 W0 S W (p::p2::(B,c,t)::L) T):Blk W B c t:=h.tail.b1
theorem OY.s0 {e:Td}{v:Vu}{n:Nat}(h:OY S0 W0 S W L ((e,v,n)::T)):SL S W e v n:=h.o.s0
theorem OY.s1 {q:TypeId×Value×Nat}{e:Td}{v:Vu}{n:Nat}(h:OY S0 W0 S W L (q::(e,v,n)::T)):SL S W e v n:=h.o.s1
theorem OY.s2 {q q2:TypeId×Value×Nat}{e:Td}{v:Vu}{n:Nat}(h:OY S0 W0 S W L (q::q2::(e,v,n)::T)):SL S W e v n:=h.o.s2
theorem a7u {U:BS}{n0:Nat}(hT:TW U W)(hb:Below n0 W W')(hU:∀b,U b->b<n0):TW U W':=λb hu=>by
 obtain⟨c,e,hc,ht⟩:=hT b hu;exact⟨c,e,hc.below hb (hU b hu),ht.mono (λ_ h=>h) (λb' c' e' fw cB=>⟨c',cB.below hb (hU b' fw),rfl⟩)⟩
theorem a3e {U:BS}{n0:Nat}(hb:Below n0 W W')(hU:∀b,U b->b<n0)(h:SL U W e v n):SL U W' e v n:=h.mono (λ_ h=>h) (λb' c' e' fw cB=>⟨c',cB.below hb (hU b' fw),rfl⟩)
theorem OY.old (h:OY S0 W0 S W L T){U:BS}(hT:TW U W0):TW U W:=a7u hT h.bel (λb hb=>hT.lt hb)
theorem OY.oldS (h:OY S0 W0 S W L T){U:BS}(hT:TW U W0){v:Vu}{n:Nat}(hs:SL U W0 e v n):SL U W e v n:=a3e h.bel (λb hb=>hT.lt hb) hs
theorem OY.evn (h:OY noB W0 S W L T)(he:Ev noB noB W S' W'):OY noB W0 (λb=>S b\/S' b) W' L T:=by
 have hb:Below W.heap.size W W':=he.low;have hS:∀b,S b->b<W.heap.size:=λb hb=>h.tw.lt hb
 have h1:TW S W':=a7u h.tw hb hS;have hn:∀b,S' b->W.heap.size<=b:=λb hb=>(he.new b hb).elim (λh=>h.elim) id
 refine h.evo ⟨λ_ hb=> .inl hb,λb hb=>hb.elim .inl (λh=> .inr (hn b h)),he.os,he.tape,he.output,he.size,λb fw _ _=>hb.block b fw,λb c e fw hc=>⟨c,hc.below hb (hS b fw),rfl⟩,λb fw=> ?_⟩ (hb.mono h.size);rcases fw with fw|fw
 ·obtain⟨c,e,hc,ht⟩:=h1 b fw
  exact⟨c,e,hc,ht.mono (λ_ h=> .inl h) (Shp.refl _ _)⟩
 ·obtain⟨c,e,hc,ht⟩:=he.ok b fw
  exact⟨c,e,hc,ht.mono (λ_ h=> .inr h) (Shp.refl _ _)⟩
theorem a8i {S S':BS}(h:SL S' W e v n):SL (λb=>S b\/S' b) W e v n:=h.mono (λ_ h=> .inr h) (Shp.refl _ _)
theorem OY.store (h:OY S0 W0 S W L T){e:Td}{b off n cap s:Nat}(he:ET e s)(hv:SL S W e (.slice (some ⟨b,off,none⟩) n cap) n)(ho:Own W0.heap.size (.slice (some ⟨b,off,none⟩) n cap))(k i:Nat)(ct:CT)(p8:(a2g e)[i]? =some ct)(u:Vu)(hu:ct.ok S W u) :
 OY S0 W0 S (W.setCell ⟨b,off+k*s+i,none⟩ u) L T/\W.frozen? ⟨b,off+k*s+i,none⟩=false:=by
 obtain⟨h1,h2⟩:=SL.store (X:=noB) h.tw he hv k i ct p8 u hu;exact⟨h.evo h1 ((zR _ W).grown (a0u W b _ u) h.size (λq e=>by cases e;exact ho _ _ _ rfl)),h2⟩
theorem OY.append (h0:OY S0 W0 S W L T){o:Oper}{a:Act}{K:Act->World->Prop}{Q:Exit->Act->World->Prop}(sO xO:Operand)(t:Td)(ho:o.op= .call { callee:= .builtin .append,args:= #[sO,xO],argTypes:= #[t,t] })
 {e:Td} {s:Nat} (ht:prog.underlying t=some (.slice e)) (he:ET e s) {sv xv:Vu} {n m:Nat} (bj:a.eval sO=sv) (hv:SL S W e sv n) (aA:Own W0.heap.size sv) (aO:a.eval xO=xv) (hx:SL S W e xv m) (hl:n+m<=1000000)
 (h:∀v' S' w',OY S0 W0 S' w' L ((e,v',n+m)::T)->Own W0.heap.size v'->K (a.put o.dst v') w'):Oper.wp prog o a W K Q:=by
 obtain⟨v',S',w',hr,h2,h3,h4,h5⟩:=a6j (X:=noB) h0.tw (ty:=o.type) ht he hv hx hl h0.size aA;exact yff
theorem OY.append_l (h0:OY S0 W0 S W L T){ops:Array Oper}{rest:List Oper}{o:Oper}{a:Act}{Q:Exit->Act->World->Prop}(bP:o.guard=none)(sO xO:Operand)(t:Td)(ho:o.op= .call { callee:= .builtin .append,args:= #[sO,xO],argTypes:= #[t,t] })
 {e:Td} {s:Nat} (ht:prog.underlying t=some (.slice e)) (he:ET e s) {sv xv:Vu} {n m:Nat} (bj:a.eval sO=sv) (hv:SL S W e sv n) (aA:Own W0.heap.size sv) (aO:a.eval xO=xv) (hx:SL S W e xv m) (hl:n+m<=1000000)
 (h:∀v' S' w',OY S0 W0 S' w' L ((e,v',n+m)::T)->Own W0.heap.size v'->wpList prog ops Q rest (a.put o.dst v') w'):wpList prog ops Q (o::rest) a W :=
 wpList_plain bP λ_ hK=>h0.append sO xO t ho ht he bj hv aA aO hx hl λv' S' w' h2 h3=>hK _ _ (h v' S' w' h2 h3)
theorem OY.append_f {U:BS}(h0:OY S0 W0 S W L T)(hU:TW U W){o:Oper}{a:Act}{K:Act->World->Prop}{Q:Exit->Act->World->Prop}(sO xO:Operand)(t:Td)(ho:o.op= .call { callee:= .builtin .append,args:= #[sO,xO],argTypes:= #[t,t] })
 {e:Td} {s:Nat} (ht:prog.underlying t=some (.slice e)) (he:ET e s) (tf:∀ct∈a2g e,ct.k≠3) {sv xv:Vu} {n m:Nat} (bj:a.eval sO=sv) (hv:SL S W e sv n) (aA:Own W0.heap.size sv) (aO:a.eval xO=xv) (hx:SL U W e xv m) (hl:n+m<=1000000)
 (h:∀v' S' w',OY S0 W0 S' w' L ((e,v',n+m)::T)->Own W0.heap.size v'->Ev noB S W S' w'->K (a.put o.dst v') w'):Oper.wp prog o a W K Q:=by
 obtain⟨v',S',w',hr,h2,h3,h4,h5⟩:=b4r (X:=noB) h0.tw hU (ty:=o.type) ht he hv hx tf hl h0.size aA;exact yfc
theorem OY.append_fl {U:BS}(h0:OY S0 W0 S W L T)(hU:TW U W){ops:Array Oper}{rest:List Oper}{o:Oper}{a:Act}{Q:Exit->Act->World->Prop}(bP:o.guard=none)(sO xO:Operand)(t:Td)(ho:o.op= .call { callee:= .builtin .append,args:= #[sO,xO],argTypes:= #[t,t] })
 {e:Td} {s:Nat} (ht:prog.underlying t=some (.slice e)) (he:ET e s) (tf:∀ct∈a2g e,ct.k≠3) {sv xv:Vu} {n m:Nat} (bj:a.eval sO=sv) (hv:SL S W e sv n) (aA:Own W0.heap.size sv) (aO:a.eval xO=xv) (hx:SL U W e xv m) (hl:n+m<=1000000)
 (h:∀v' S' w',OY S0 W0 S' w' L ((e,v',n+m)::T)->Own W0.heap.size v'->Ev noB S W S' w'->wpList prog ops Q rest (a.put o.dst v') w'):wpList prog ops Q (o::rest) a W :=
 wpList_plain bP λ_ hK=>h0.append_f hU sO xO t ho ht he tf bj hv aA aO hx hl λv' S' w' h2 h3 h4=>hK _ _ (h v' S' w' h2 h3 h4)
theorem OY.append_n (h0:OY S0 W0 S W L T){ops:Array Oper}{rest:List Oper}{o:Oper}{a:Act}{Q:Exit->Act->World->Prop}(bP:o.guard=none)(sO xO:Operand)(t:Td)(ho:o.op= .call { callee:= .builtin .append,args:= #[sO,xO],argTypes:= #[t,t] })
 {e:Td} {s:Nat} (ht:prog.underlying t=some (.slice e)) (he:ET e s) {v:Vu} {n:Nat} (bj:a.eval sO=v) (hv:SL S W e v n) (aA:Own W0.heap.size v) {H:Nat} (aO:a.eval xO= .slice (some ⟨H,0,none⟩) 1 1) (hH:W.heap.size=H) {c:Array Value} (hc:TB S W e c) (lq:c.size=s) (hl:n<=100000)
 (h:∀v' S' w',OY S0 W0 S' w' L ((e,v',n+1)::T)->Own W0.heap.size v'->wpList prog ops Q rest (a.put o.dst v') w'):wpList prog ops Q (o::rest) a (W.alloc (.cells c e)):=by
 subst hH;have h1:=h0.cellT hc;have hA:=Ev.alloc (X:=noB) h0.tw hc;exact yha
end
theorem OY.empty {S0 S:BS}{W0 W:Wd}{L:a5g}{T:SlL}(h:OY S0 W0 S W L T)(e:Td):OY S0 W0 (λb=>S b\/b=W.heap.size) (W.alloc (.cells #[] e)) L ((e,.slice (some ⟨W.heap.size,0,none⟩) 0 0,0)::T) :=
 (h.cellT b6s).add (SL.blk (.inr rfl) (Blk.new W #[] e) vM)
theorem b6v {n b k c:Nat}(h:n<=b)(o:Nat):Own n (.slice (some ⟨b,o,none⟩) k c):=λa k' c' e=>by cases e;exact h
theorem a9q :∀ct∈a2g 41,ct.k≠3:=jM
theorem b2i :∀ct∈a2g 43,ct.k≠3:=jM
theorem a9r (U:BS)(w:Wd)(hT:TW U w)(v:Vu)(n:Nat)(hv:SL U w 41 v n)(hn:n<=1000) :
 Calls prog 116 #[v] w λe w'=>∃S' v',e= .returned v'/\SL S' w' 41 v' n/\Ev noB noB w S' w':=by
 have ho:=(OY.init (TW.none w)).empty 41;have Mf:=ho.old hT;have rA:=ho.oldS hT hv;obtain⟨a,cap,rfl,-⟩:=hv.form;go_enter func116,ntmps116;go_wp2_with (first
  |(at_builtin;refine ho.append_fl Mf qM _ _ 44 qM underlying44 a1l a9q qM ho.s0 (b6v (yR _) _) qM rA xM ?_;intro v9 S9 w9 nt gL _))
 go_ret;refine⟨S9,_,rfl,?_,nt.o.ev⟩;have:=nt.s0;rwa [Nat.zero_add]at this
end
section
open Go Go.RowKit Go.Shelf
section
variable {α:Type}{E:El α}{P:Program}{st:Td}
end
theorem a3m {W:Wd}{base Z:Nat}{t:Td}{s:Nat}(h:Blk W Z #[] t)(hb:base<=Z):W.ownsRow base t s (.slice (some ⟨Z,0,none⟩) 0 0) 0 []:=⟨by simp,.inr ⟨Z,0,#[],rfl,hb,h,yR _,by unfold maxLen;omega,by simp,by simp⟩⟩
theorem Lst.drop {α:Type}{E:El α}{n₀:Nat}{W:Wd}{b off cap:Nat}{l:List α}(h:Lst E n₀ W (.slice (some ⟨b,off,none⟩) l.length cap) l)(k:Nat)(hk:k<=l.length):Lst E n₀ W (.slice (some ⟨b,off+k*E.s,none⟩) (l.length-k) (cap-k)) (l.drop k):=by
 obtain⟨a',bk,e,h1,h2,h3⟩:=h
 cases e;refine⟨_,_,by rw[List.length_drop],by rw[List.length_drop];omega,by rw[List.length_drop];omega,λj hj=> ?_⟩;rw[List.length_drop]at hj;obtain⟨b',dK,e2,ab,hc⟩:=h3 (k+j) xM;simp only[Option.some.injEq,Addr.mk.injEq,and_true]at e2;obtain⟨rfl,rfl⟩:=e2;refine⟨b,off+k*E.s,rfl,ab,λi hi=> ?_⟩;rw[List.getElem_drop,<-hc i hi];rw[Nat.add_mul,Nat.add_assoc off,Nat.add_assoc off]
end
end Go.Proofs.YteijfnkidefekaaGreat
