/-
  Parts.
-/
import Derived.Test.YteijfnkidefekaaGreatEar
import Derived.Test.YteijfnkidefekaaGreatEbb
import Derived.Test.YteijfnkidefekaaGreatEbe
set_option linter.unusedVariables false
set_option linter.unusedSimpArgs false
set_option linter.unusedSectionVars false
set_option maxHeartbeats 8000000
set_option maxRecDepth 100000
namespace Go.Proofs.YteijfnkidefekaaGreat
open Tryz
section
open Go Go.RowKit Go.Shelf Go.Lib
theorem Ev.low39 {S':BS}{W W':Wd}(h:Ev noB noB W S' W'):Below W.heap.size W W':=h.below (λ_ h=>h.elim) (λ_ h=>h.elim) (yR _)
def a3r (W:Wd)(B:Nat)(a b c d:Vu):World:=(((W.setCell ⟨B,0,none⟩ a).setCell ⟨B,1,none⟩ b).setCell ⟨B,2,none⟩ c).setCell ⟨B,3,none⟩ d
section
variable {W:Wd}{B A:Nat}{x y z u:Vu}{k:Array Value}{t:Td}
theorem Blk.set39 (h:Blk W B #[x,y,z,u] t)(a b c d:Vu):Blk (a3r W B a b c d) B #[a,b,c,d] t:=(((h.set 0 a).set 1 b).set 2 c).set 3 d
theorem Blk.not39 (h:Blk W A k t)(hn:A≠B)(a b c d:Vu):Blk (a3r W B a b c d) A k t:=(((h.other hn 0 a).other hn 1 b).other hn 2 c).other hn 3 d
theorem b8q {n:Nat}{w0:Wd}(h:Below n w0 W){B:Nat}(hB:n<=B)(a b c d:Vu):Below n w0 (a3r W B a b c d):=(((h.setCell hB a).setCell hB b).setCell hB c).setCell hB d
theorem a9w {b:Nat}(h:b≠B)(p q r s:Vu):(a3r W B p q r s).heap[b]? =W.heap[b]? :=by
 unfold a3r;rw[Below.heap_setCell _ _ _ _ h,Below.heap_setCell _ _ _ _ h,Below.heap_setCell _ _ _ _ h,Below.heap_setCell _ _ _ _ h]
theorem c7u (p q r s:Vu):(a3r W B p q r s).heap.size=W.heap.size:=by
 unfold a3r;simp only[World.size_setCell]
end
theorem a9x {W:Wd}{base jk:Nat}{e:Td}{s:Nat}{v:Vu}{n:Nat}{xs:List Value}(h:W.ownsRow base e s v n xs)(hb:jk<=base):W.ownsRow jk e s v n xs:=by
 exact yhw
theorem a5x {W:Wd}{base:Nat}{e:Td}{s:Nat}{v:Vu}{n:Nat}{xs:List Value}(h:W.ownsRow base e s v n xs):Frm v n:=by
 exact yjo
theorem a9y {W:Wd}{base:Nat}{e:Td}{s:Nat}{v:Vu}{n:Nat}{xs:List Value}(h:W.ownsRow base e s v n xs):∀b,v.ownBlock=some b->base<=b:=by
 intro b hb;rcases h.2 with⟨e1,-⟩|⟨g,cap,cur,e1,h2,-⟩
 ·subst e1;cases hb
 ·subst e1;cases hb;exact h2
theorem c4b {D:Nat->Prop}{W W':Wd}{e:Td}{s:Nat}{v:Vu}{n:Nat}{xs:List Value}(h:W.ownsRow 0 e s v n xs)(ho:∀b,v.ownBlock=some b->D b)(hs:∀b,D b->b<W.heap.size->W'.heap[b]? =W.heap[b]?):W'.ownsRow 0 e s v n xs:=by
 refine⟨h.1,h.2.imp id ?_⟩;rintro⟨g,cap,cur,e1,h1,h2,h3⟩;exact⟨g,cap,cur,e1,h1,(hs g (ho g (by rw[e1];rfl)) (Array.getElem?_eq_some_iff.1 h2).1).trans h2,h3⟩
structure Mp9 (D:Nat->Prop)(S:BS)(W:Wd)(K:Nat)(a1:Option Addr)(m1 c1:Nat)(a2:Option Addr)(m2 c2:Nat)(a3:Option Addr)(m3 c3:Nat)(a4:Option Addr)(m4 c4:Nat)(l:List Pc):Prop where
 tw:TW S W
 e:SL S W 71 (.slice a1 m1 c1) m1
 f:SL S W 43 (.slice a2 m2 c2) m2
 w:SL S W 46 (.slice a3 m3 c3) m3
 row:W.ownsRow 0 48 7 (.slice a4 m4 c4) l.length (l.flatMap plE.enc)
 low:∀b,S b->D b
 own:∀b,(Value.slice a4 m4 c4).ownBlock=some b->D b
 ne:m1<=30+K
 nf:m2<=200+K
 nw:m3<=20+K
 np:l.length<=6+82*K
 ok:∀p∈l,PcOk p
 ln:l.length=m4
section
variable {D D':Nat->Prop}{S:BS}{W W':Wd}{K:Nat}{a1 a2 a3 a4:Option Addr}{m1 c1 m2 c2 m3 c3 m4 c4:Nat}{l:List Pc}
theorem Mp9.same (h:Mp9 D S W K a1 m1 c1 a2 m2 c2 a3 m3 c3 a4 m4 c4 l)(hs:∀b,D b->b<W.heap.size->W'.heap[b]? =W.heap[b]?):Mp9 D S W' K a1 m1 c1 a2 m2 c2 a3 m3 c3 a4 m4 c4 l:=by
 have aG:∀b,S b->W'.heap[b]? =W.heap[b]? :=λb hb=>hs b (h.low b hb) (h.tw.lt hb)
 have cM:Shp S W W':=λb c e hb hc=>⟨c,(aG b hb).trans hc,rfl⟩
 exact{ h with tw:=h.tw.of_same aG,e:=h.e.mono (λ_ h=>h) cM,f:=h.f.mono (λ_ h=>h) cM,w:=h.w.mono (λ_ h=>h) cM,row:=c4b h.row h.own hs }
theorem Mp9.up (h:Mp9 D S W K a1 m1 c1 a2 m2 c2 a3 m3 c3 a4 m4 c4 l)(hb:Below W.heap.size W W'):Mp9 D S W' K a1 m1 c1 a2 m2 c2 a3 m3 c3 a4 m4 c4 l:=h.same λb _ hl=>hb.block b hl
theorem Mp9.weak (h:Mp9 D S W K a1 m1 c1 a2 m2 c2 a3 m3 c3 a4 m4 c4 l)(hd:∀b,D b->b<W.heap.size->D' b):Mp9 D' S W K a1 m1 c1 a2 m2 c2 a3 m3 c3 a4 m4 c4 l :=
 { h with low:=λb hb=>hd b (h.low b hb) (h.tw.lt hb),own:=λb hb=>hd b (h.own b hb) (by obtain⟨c,hc⟩:=c0a h.row b hb;exact hc.lt) }
theorem Mp9.more {K':Nat}(h:Mp9 D S W K a1 m1 c1 a2 m2 c2 a3 m3 c3 a4 m4 c4 l)(hK:K<=K'):Mp9 D S W K' a1 m1 c1 a2 m2 c2 a3 m3 c3 a4 m4 c4 l :=
 { h with ne:=by have:=h.ne;omega,nf:=by have:=h.nf;omega,nw:=by have:=h.nw;omega,np:=by have:=h.np;omega }
theorem Mp9.I (h:Mp9 D S W K a1 m1 c1 a2 m2 c2 a3 m3 c3 a4 m4 c4 l)(hK:K<=3):MapI S W (.slice a1 m1 c1) (.slice a2 m2 c2) (.slice a3 m3 c3) (.slice a4 m4 c4) m1 m2 m3 l :=
 ⟨h.tw,h.e,h.f,h.w,a0g a2n h.row (by have:=h.np;omega),a5x h.row,by have:=h.ne;omega,by have:=h.nf;omega,by have:=h.nw;omega,by have:=h.np;omega⟩
theorem Mp9.mapV (h:Mp9 D S W K a1 m1 c1 a2 m2 c2 a3 m3 c3 a4 m4 c4 l)(hK:K<=3):∃E F Y,E.length=m1/\F.length=m2/\Y.length=m3/\MapV W.heap.size W (.slice a1 m1 c1) (.slice a2 m2 c2) (.slice a3 m3 c3) (.slice a4 m4 c4) E F Y l:=by
 have h1:=h.ne;have h2:=h.nf;have h3:=h.nw;have h4:=h.np;obtain⟨E,e1,e2,e3,e4⟩:=c0i h.tw h.e xM;obtain⟨F,f1,f2,f3,f4⟩:=c0j h.tw h.f xM;obtain⟨Y,y1,y2,y3,y4⟩:=c0k h.tw h.w xM;exact⟨E,F,Y,e1,f1,y1,e2,e3,λx hx=>(e4 x hx).1,f2,f3,y2,y3,λx hx=>(y4 x hx).1,a0g a2n h.row xM,a5x h.row,xM,xM,xM,xM,λx hx=>(e4 x hx).2,f4,λx hx=>(y4 x hx).2,λx hx=>(h.ok x hx).id⟩
theorem Mp9.odd {n0:Nat}{S':BS}{ev fv wv pv:Vu}{ne' nf' nw':Nat}{l':List Pc}(h:Mp9 D S W K a1 m1 c1 a2 m2 c2 a3 m3 c3 a4 m4 c4 l)(hK:K<=3)(hR:MapR n0 S' W' ev fv wv pv ne' nf' nw' l')(hO:OddR m1 m2 m3 l ne' nf' nw' l')(hE:Ev noB noB W S' W')(hn:∀b,W.heap.size<=b->D b)(bX:W.heap.size<=n0) :
 ∃b1 n1 d1 b2 n2 d2 b3 n3 d3 b4 n4 d4 l2 S3,(.agg #[ev,fv,wv,pv]:Value)= .agg #[.slice b1 n1 d1,.slice b2 n2 d2,.slice b3 n3 d3,.slice b4 n4 d4]/\Mp9 D S3 W' (K+1) b1 n1 d1 b2 n2 d2 b3 n3 d3 b4 n4 d4 l2:=by
 have hr:=hR.row;have h1:=h.ne;have h2:=h.nf;have h3:=h.nw;have h4:=h.np;have o1:=hO.e;have o2:=hO.f;have o3:=hO.w;have o4:=hO.p;obtain⟨b1,d1,e1,-⟩:=hR.e.form;obtain⟨b2,d2,e2,-⟩:=hR.f.form;obtain⟨b3,d3,e3,-⟩:=hR.w.form;obtain⟨b4,d4,e4,-⟩:=(a0g a2n hr xM).form;subst e1 e2 e3 e4;exact⟨_,_,_,_,_,_,_,_,_,_,_,_,l',S',rfl,hE.ok,hR.e,hR.f,hR.w,a9x hr (Nat.zero_le _),λb hb=>(hE.new b hb).elim (λh=>h.elim) (hn b),λb hb=>hn b (Nat.le_trans bX (a9y hr b hb)),xM,xM,xM,xM,hO.ok h.ok,rfl⟩
end
abbrev q3E :El (Int×Int×Int):=⟨119,3,λq=>[.int .i64 q.1,.int .i64 q.2.1,.int .i64 q.2.2]⟩
structure Tri3 (n0:Nat)(W:Wd)(da:Option Addr)(dn:Nat):Prop where
 h:∀k,k<dn->k<3->∃(b off:Nat) (q:Int×Int×Int),da=some ⟨b,off,none⟩/\b<n0/\AtC q3E W b (off+k*3) q/\a0l q.1/\a0l q.2.1/\a0l q.2.2
theorem Tri3.up {W W':Wd}{da:Option Addr}{dn:Nat}(h:Tri3 W.heap.size W da dn)(hb:Below W.heap.size W W'):Tri3 W'.heap.size W' da dn:=⟨λk h1 h2=>by
 obtain⟨b,off,q,e,hl,hc,hf⟩:=h.h k h1 h2;exact⟨b,off,q,e,Nat.lt_of_lt_of_le hl hb.size,hc.below hb hl,hf⟩⟩
structure ChM (D:Nat->Prop)(S:BS)(k X db off:Nat)(q:Int×Int×Int)(a1:Option Addr)(m1 c1:Nat)(a2:Option Addr)(m2 c2:Nat)(a3:Option Addr)(m3 c3:Nat)(a4:Option Addr)(m4 c4:Nat)(l:List Pc)(Wr W:Wd):Prop where
 b:Blk W X #[.slice a1 m1 c1,.slice a2 m2 c2,.slice a3 m3 c3,.slice a4 m4 c4] 32
 m:Mp9 D S W k a1 m1 c1 a2 m2 c2 a3 m3 c3 a4 m4 c4 l
 d:AtC q3E W db (off+k*3) q
 dl:db<Wr.heap.size
 bel:Below Wr.heap.size Wr W
 n:∀b,Wr.heap.size<=b->D b
 f0:a0l q.1
 f1:a0l q.2.1
 f2:a0l q.2.2
theorem ChM.up {D:Nat->Prop}{S:BS}{k X db off:Nat}{q:Int×Int×Int}{a1:Option Addr}{m1 c1:Nat}{a2:Option Addr}{m2 c2:Nat}{a3:Option Addr}{m3 c3:Nat}{a4:Option Addr}{m4 c4:Nat}{l:List Pc}{Wr W W':Wd}(h:ChM D S k X db off q a1 m1 c1 a2 m2 c2 a3 m3 c3 a4 m4 c4 l Wr W)(hb:Below W.heap.size W W'):ChM D S k X db off q a1 m1 c1 a2 m2 c2 a3 m3 c3 a4 m4 c4 l Wr W' :=
 { h with b:=h.b.below hb h.b.lt,m:=h.m.up hb,d:=h.d.below hb (Nat.lt_of_lt_of_le h.dl h.bel.size),bel:=h.bel.trans (hb.mono h.bel.size) }
def FCh (D:Nat->Prop)(k X db off dn dc:Nat)(q0 q1 q2:Int)(a1:Option Addr)(m1 c1:Nat)(a2:Option Addr)(m2 c2:Nat)(a3:Option Addr)(m3 c3:Nat)(a4:Option Addr)(m4 c4:Nat)(i:Nat)(v:Vu)(w:Wd):Prop :=
 match i with
 |0=>v= .agg #[.slice a1 m1 c1,.slice a2 m2 c2,.slice a3 m3 c3,.slice a4 m4 c4]
 |1=>v= .slice (some ⟨db,off,none⟩) dn dc
 |2=>v= .int .i64 (k:Nat)
 |3=>v= .pointer (some ⟨db,off+k*3,none⟩)
 |4=>v= .agg #[.int .i64 q0,.int .i64 q1,.int .i64 q2]
 |5=>∃b1 n1 d1 b2 n2 d2 b3 n3 d3 b4 n4 d4 l2 S3,v= .agg #[.slice b1 n1 d1,.slice b2 n2 d2,.slice b3 n3 d3,.slice b4 n4 d4]/\Mp9 D S3 w (k+1) b1 n1 d1 b2 n2 d2 b3 n3 d3 b4 n4 d4 l2
 |_=>False
theorem FCh.kept {D:Nat->Prop}{k X db off dn dc:Nat}{q0 q1 q2:Int}{a1:Option Addr}{m1 c1:Nat}{a2:Option Addr}{m2 c2:Nat}{a3:Option Addr}{m3 c3:Nat}{a4:Option Addr}{m4 c4:Nat}{i:Nat}{v:Vu}{w w':Wd}(h:FCh D k X db off dn dc q0 q1 q2 a1 m1 c1 a2 m2 c2 a3 m3 c3 a4 m4 c4 i v w)(hg:Below w.heap.size w w'):FCh D k X db off dn dc q0 q1 q2 a1 m1 c1 a2 m2 c2 a3 m3 c3 a4 m4 c4 i v w':=by
 unfold FCh at *;split at h
 all_goals first|exact h|(obtain⟨b1,n1,d1,b2,n2,d2,b3,n3,d3,b4,n4,d4,l2,S3,h1,h2⟩:=h;exact⟨b1,n1,d1,b2,n2,d2,b3,n3,d3,b4,n4,d4,l2,S3,h1,h2.up hg⟩)
def ChR (D:Nat->Prop)(w:Wd)(k X:Nat)(W:Wd):Prop :=
 ∃S a1 m1 c1 a2 m2 c2 a3 m3 c3 a4 m4 c4 l,Blk W X #[.slice a1 m1 c1,.slice a2 m2 c2,.slice a3 m3 c3,.slice a4 m4 c4] 32/\Mp9 D S W k a1 m1 c1 a2 m2 c2 a3 m3 c3 a4 m4 c4 l/\Blk W (X+1) #[.slice none 0 0,.slice none 0 0,.slice none 0 0,.slice none 0 0] 32/\Below w.heap.size w W
theorem b5s (n1:Nat)(U:BS)(w:Wd)(ck:n1<=w.heap.size)(a1:Option Addr)(m1 c1:Nat)(a2:Option Addr)(m2 c2:Nat)(a3:Option Addr)(m3 c3:Nat)(a4:Option Addr)(m4 c4:Nat)(l:List Pc)(hI:Mp9 (λb=>n1<=b) U w 0 a1 m1 c1 a2 m2 c2 a3 m3 c3 a4 m4 c4 l)(da:Option Addr)(dn dc:Nat)(hd:Tri3 w.heap.size w da dn) :
 Calls prog 16 #[.agg #[.slice a1 m1 c1,.slice a2 m2 c2,.slice a3 m3 c3,.slice a4 m4 c4],.slice da dn dc] w λe w'=>∃S' b1 rV d1 b2 n2 d2 b3 n3 d3 b4 n4 d4 l2,e= .returned (.agg #[.slice b1 rV d1,.slice b2 n2 d2,.slice b3 n3 d3,.slice b4 n4 d4])/\Mp9 (λb=>n1<=b) S' w' 3 b1 rV d1 b2 n2 d2 b3 n3 d3 b4 n4 d4 l2/\Below w.heap.size w w':=by
 obtain⟨X,hX⟩:=zE w.heap.size;go_enter func16,ntmps16;go_upto_region 1 with fail;have ah:Below w.heap.size w ((w.alloc (.cells #[.slice a1 m1 c1,.slice a2 m2 c2,.slice a3 m3 c3,.slice a4 m4 c4] 32)).alloc (.cells #[.slice none 0 0,.slice none 0 0,.slice none 0 0,.slice none 0 0] 32)):=by exact zC
 have kX:=(Blk.new w #[.slice a1 m1 c1,.slice a2 m2 c2,.slice a3 m3 c3,.slice a4 m4 c4] 32).alloc (.cells #[.slice none 0 0,.slice none 0 0,.slice none 0 0,.slice none 0 0] 32);have kZ:=Blk.new (w.alloc (.cells #[.slice a1 m1 c1,.slice a2 m2 c2,.slice a3 m3 c3,.slice a4 m4 c4] 32)) #[.slice none 0 0,.slice none 0 0,.slice none 0 0,.slice none 0 0] 32;rw[World.size_alloc]at kZ;rw[hX]at kX kZ;obtain⟨W1,ao⟩:=zE ((w.alloc (.cells #[.slice a1 m1 c1,.slice a2 m2 c2,.slice a3 m3 c3,.slice a4 m4 c4] 32)).alloc (.cells #[.slice none 0 0,.slice none 0 0,.slice none 0 0,.slice none 0 0] 32));rw[ao]at ah kX kZ ⊢;clear ao;obtain⟨D,hD⟩:∃D:Nat->Prop,D=λb=>n1<=b/\b≠X/\b≠X+1:=⟨_,rfl⟩
 have NH:∀b,X+1<b->D b:=λb hb=>by rw[hD];exact⟨xM,xM,xM⟩
 have H0:∀b,D b->b≠X/\b≠X+1:=λb hb=>by rw[hD]at hb;exact hb.2
 have C0:∀b,D b->n1<=b:=λb hb=>by rw[hD]at hb;exact hb.1
 have hS:ChR D w 0 X W1:=⟨_,_,_,_,_,_,_,_,_,_,_,_,_,_,kX,(hI.weak (D':=D) λb h1 h2=>by rw[hD];exact⟨h1,xM,xM⟩).up ah,kZ,ah⟩;clear kX kZ hI hD;go_wp2_with fail;go_loopw [5] (λv wq=>∃k:Nat,k<=dn/\k<=3/\v= .int .i64 (k:Nat)/\ChR D w k X wq) (λv wq=>dn-(intOf v).toNat)
 case atStart=>exact⟨0,Nat.zero_le _,Nat.zero_le _,rfl,hS⟩
 case round =>
  obtain⟨k,hk,AQ,rfl,hR⟩:=hrel;by_cases ab:k<dn
  ·have aj:(k:Int)<(dn:Int):=xM
   by_cases jY:k<3
   ·have FG:(k:Int)<3:=xM
    go_upto_region 4 with fail;obtain⟨S,a1,m1,c1,a2,m2,c2,a3,m3,c3,a4,m4,c4,l3,kB,mQ,kZ,al⟩:=hR;obtain⟨db,off,q,rfl,BK,jH,wj⟩:=hd.h k ab jY;clear hd hS ah;have FH:ChM D S k X db off q a1 m1 c1 a2 m2 c2 a3 m3 c3 a4 m4 c4 l3 wr wr:=⟨kB,mQ,jH.below al BK,Nat.lt_of_lt_of_le BK al.size,zR _ _,λb hb=>NH b (by have:=kZ.lt;omega),wj.1,wj.2.1,wj.2.2⟩;clear kB mQ;refine Go.wp_region_rel 6 zM zM (λ_ W=>ChM D S k X db off q a1 m1 c1 a2 m2 c2 a3 m3 c3 a4 m4 c4 l3 wr W) (λw w'=>Below w.heap.size w w') (FCh D k X db off dn dc q.1 q.2.1 q.2.2 a1 m1 c1 a2 m2 c2 a3 m3 c3 a4 m4 c4) (λ_ _ _ _ h g=>h.kept g) (FH.up (zR _ _).drew) ?step ?tail
    case step =>
     clear FH jH wj BK kZ al;obtain⟨q0,q1,q2⟩:=q;intro i o hi ho c bb W hc hM hA hD K hK;match i,hi,ho with
     |0,_,ho =>
      cases ho;have f2:=a0a (v:= .pointer (some ⟨X,0,none⟩)) (hA.at_ (k:=2) zM);have z0:W.cell? ⟨X,0,none⟩=some (.slice a1 m1 c1):=hM.b.cell 0;have z1:W.cell? ⟨X,1,none⟩=some (.slice a2 m2 c2):=hM.b.cell 1;have z2:W.cell? ⟨X,2,none⟩=some (.slice a3 m3 c3):=hM.b.cell 2;have z3:W.cell? ⟨X,3,none⟩=some (.slice a4 m4 c4):=hM.b.cell 3;exact yih
     |1,_,ho =>
      cases ho;have f1:=a0a (v:= .slice (some ⟨db,off,none⟩) dn dc) (hA.at_ (k:=1) zM);go_simp;exact hK (.slice (some ⟨db,off,none⟩) dn dc) W rfl (zR _ _) hM
     |2,_,ho =>
      exact yft
     |3,_,ho =>
      cases ho;have f17:=a0a (v:= .slice (some ⟨db,off,none⟩) dn dc) (a0b hD 1 17 zM rfl rfl);have f18:=a0a (v:= .int .i64 (k:Nat)) (a0b hD 2 18 zM rfl rfl);go_simp;exact hK (.pointer (some ⟨db,off+k*3,none⟩)) W rfl (zR _ _) hM
     |4,_,ho =>
      cases ho;have f19:=a0a (v:= .pointer (some ⟨db,off+k*3,none⟩)) (a0b hD 3 19 zM rfl rfl);have z0:W.cell? ⟨db,off+k*3,none⟩=some (.int .i64 q0):=hM.d 0 jM;have z1:W.cell? ⟨db,off+k*3+1,none⟩=some (.int .i64 q1):=hM.d 1 jM;have z2:W.cell? ⟨db,off+k*3+2,none⟩=some (.int .i64 q2):=hM.d 2 jM;go_simp;exact hK (.agg #[.int .i64 q0,.int .i64 q1,.int .i64 q2]) W rfl (zR _ _) hM
     |5,_,ho =>
      cases ho;have f16:=a0a (v:= .agg #[.slice a1 m1 c1,.slice a2 m2 c2,.slice a3 m3 c3,.slice a4 m4 c4]) (a0b hD 0 16 zM rfl rfl);have f20:=a0a (v:= .agg #[.int .i64 q0,.int .i64 q1,.int .i64 q2]) (a0b hD 4 20 zM rfl rfl);go_simp;refine(c1t _ W _ _ _ _ _ _ _ _ (hM.m.I xM) q0 q1 q2 hM.f0 hM.f1 hM.f2).mono ?_;rintro e W'⟨S',iH,iI,mD,iJ,ne',nf',nw',l',rfl,hR,hO,hE⟩;go_simp;exact hK _ W' (hM.m.odd xM hR hO hE (λb hb=>hM.n b (Nat.le_trans hM.bel.size hb)) (yR _)) hE.low39 (hM.up hE.low39)
     |i+6,hi,_=>exact absurd hi xM
    case tail =>
    intro bb W' hM hA aa;obtain⟨b1,rV,d1,b2,n2,d2,b3,n3,d3,b4,n4,d4,l2,S3,h21,hm⟩:=(show ∃b1 n1 d1 b2 n2 d2 b3 n3 d3 b4 n4 d4 l2 S3,bb.eval (.tmp 21)= .agg #[.slice b1 n1 d1,.slice b2 n2 d2,.slice b3 n3 d3,.slice b4 n4 d4]/\Mp9 D S3 W' (k+1) b1 n1 d1 b2 n2 d2 b3 n3 d3 b4 n4 d4 l2 from aa 5 xM _ _ rfl rfl);have az:=hA.frame [T,T,T,T,T,T,T,T,T,T,T,T,T,T,T,T,F,F,F,F,F,F,T] _ rfl zM;clear aa hA;obtain⟨f,hf⟩:=zDt bb;have g21:f 21= .agg #[.slice b1 rV d1,.slice b2 n2 d2,.slice b3 n3 d3,.slice b4 n4 d4]:=by rw[<-hf,<-h21];rfl
    rw[hf]at az;clear hf h21;subst az;simp only[a1j,g21,Nat.reduceAdd];clear g21;simp only[zU];have kB:=hM.b;have Je:=kZ.below hM.bel kZ.lt;have zm:=al.trans (hM.bel.mono al.size);clear hM FH kZ al jH;obtain⟨o0,o1,o2,o3⟩:=zN4 kB;have fe:=kB.frozen;have NI:ChR D w (k+1) X (a3r W' X (.slice b1 rV d1) (.slice b2 n2 d2) (.slice b3 n3 d3) (.slice b4 n4 d4)):=⟨_,_,_,_,_,_,_,_,_,_,_,_,_,_,kB.set39 _ _ _ _,hm.same λb hb _=>a9w (H0 b hb).1 _ _ _ _,Je.not39 xM _ _ _ _,b8q zm xM _ _ _ _⟩;clear kB Je zm hm;go_wp2_with fail;go_roundw
    case rel=>exact⟨k+1,xM,xM,by go_num,NI⟩
    case measure=>simp[intOf];omega
   ·have FG:¬(k:Int)<3:=xM
    exact ybe
  ·have aT:¬(k:Int)<(dn:Int):=xM
   exact ybe
theorem a9i {P:Program}{fn:Func}{p q r:Tmp}{ty tz ta:Td}(h:fn.results= #[.cell p ty,.cell q tz,.cell r ta]){tmps:Array Value}{w:Wd}{g i j:Nat}{t u v:Td}{cs ds es:Array Value}{d e f:TypeDesc}
 (hp:tmps.getD p undef= .pointer (some ⟨g,0,none⟩)) (hg:Blk w g cs t) (hu:P.underlying ty=some d) (hd:(match d with | .struct _ | .array _ _=>true|_=>false)=true) (hi:(P.info? ty).map (·.size)=some cs.size)
 (vS:tmps.getD q undef= .pointer (some ⟨i,0,none⟩)) (fM:Blk w i ds u) (C9:P.underlying tz=some e) (bM:(match e with | .struct _ | .array _ _=>true|_=>false)=true) (sP:(P.info? tz).map (·.size)=some ds.size)
 (mC:tmps.getD r undef= .pointer (some ⟨j,0,none⟩)) (zn:Blk w j es v) (NJ:P.underlying ta=some f) (lD:(match f with | .struct _ | .array _ _=>true|_=>false)=true) (pF:(P.info? ta).map (·.size)=some es.size) :
 (results fn tmps).run P w= .ok (.tuple #[.agg cs,.agg ds,.agg es]) w:=by
 have rm:tmps[p]?.getD undef= .pointer (some ⟨g,0,none⟩):=by simpa using hp
 have FI:tmps[q]?.getD undef= .pointer (some ⟨i,0,none⟩):=by simpa using vS
 have FJ:tmps[r]?.getD undef= .pointer (some ⟨j,0,none⟩):=by simpa using mC
 simp[results,h,rm,FI,FJ,asAddr,run_loadVar_row w g t ty cs (0,0) d hg hu hd hi,run_loadVar_row w i u tz ds (0,0) e fM C9 bM sP,run_loadVar_row w j v ta es (0,0) f zn NJ lD pF,Result.andThen]
theorem Mp9.of_made {n0 n1:Nat}{S:BS}{W W':Wd}{a1 a2 a3 a4:Option Addr}{m1 c1 m2 c2 m3 c3 m4 c4:Nat}{l:List Pc}(hE:Ev noB noB W S W')(he:SL S W' 71 (.slice a1 m1 c1) m1)(hf:SL S W' 43 (.slice a2 m2 c2) m2)(hw:SL S W' 46 (.slice a3 m3 c3) m3)(hr:W'.ownsRow n0 48 7 (.slice a4 m4 c4) l.length (l.flatMap plE.enc))(h1:m1<=30)(h2:m2<=200)(h3:m3<=20)(h4:l.length<=6)(iZ:PlsOk l)(hn:n1<=W.heap.size)(bX:n1<=n0)(hl:l.length=m4):Mp9 (λb=>n1<=b) S W' 0 a1 m1 c1 a2 m2 c2 a3 m3 c3 a4 m4 c4 l :=
 ⟨hE.ok,he,hf,hw,a9x hr (Nat.zero_le _),λb hb=>(hE.new b hb).elim (λh=>h.elim) λh=>Nat.le_trans hn h,λb hb=>Nat.le_trans bX (a9y hr b hb),xM,xM,xM,xM,iZ.ok,hl⟩
structure MdM (S:BS)(n1 nn BM:Nat)(rv:Vu)(da:Option Addr)(dn dc:Nat)(ga:Option Addr)(gn gc:Nat)(a1:Option Addr)(m1 c1:Nat)(a2:Option Addr)(m2 c2:Nat)(a3:Option Addr)(m3 c3:Nat)(a4:Option Addr)(m4 c4:Nat)(l:List Pc)(W3 W:Wd):Prop where
 c:Blk W nn #[rv,.slice da dn dc,.slice ga gn gc] 25
 b:Blk W BM #[.slice a1 m1 c1,.slice a2 m2 c2,.slice a3 m3 c3,.slice a4 m4 c4] 32
 m:Mp9 (λb=>n1<=b) S W 0 a1 m1 c1 a2 m2 c2 a3 m3 c3 a4 m4 c4 l
 d:Tri3 W.heap.size W da dn
 g:Tri3 W.heap.size W ga gn
 bel:Below W3.heap.size W3 W
 sz:n1<=W3.heap.size
theorem MdM.up {S:BS}{n1 nn BM:Nat}{rv:Vu}{da:Option Addr}{dn dc:Nat}{ga:Option Addr}{gn gc:Nat}{a1:Option Addr}{m1 c1:Nat}{a2:Option Addr}{m2 c2:Nat}{a3:Option Addr}{m3 c3:Nat}{a4:Option Addr}{m4 c4:Nat}{l:List Pc}{W3 W W':Wd}(h:MdM S n1 nn BM rv da dn dc ga gn gc a1 m1 c1 a2 m2 c2 a3 m3 c3 a4 m4 c4 l W3 W)(hb:Below W.heap.size W W'):MdM S n1 nn BM rv da dn dc ga gn gc a1 m1 c1 a2 m2 c2 a3 m3 c3 a4 m4 c4 l W3 W' :=
 { h with c:=h.c.below hb h.c.lt,b:=h.b.below hb h.b.lt,m:=h.m.up hb,d:=h.d.up hb,g:=h.g.up hb,bel:=h.bel.trans (hb.mono h.bel.size) }
theorem a9z {S:BS}{n1 nn BM:Nat}{rv:Vu}{da:Option Addr}{dn dc:Nat}{ga:Option Addr}{gn gc:Nat}{a1:Option Addr}{m1 c1:Nat}{a2:Option Addr}{m2 c2:Nat}{a3:Option Addr}{m3 c3:Nat}{a4:Option Addr}{m4 c4:Nat}{l:List Pc}{W3 W:Wd}(hM:MdM S n1 nn BM rv da dn dc ga gn gc a1 m1 c1 a2 m2 c2 a3 m3 c3 a4 m4 c4 l W3 W){xa:Option Addr}{xn xc:Nat}(hx:Tri3 W.heap.size W xa xn) :
 Calls prog 16 #[.agg #[.slice a1 m1 c1,.slice a2 m2 c2,.slice a3 m3 c3,.slice a4 m4 c4],.slice xa xn xc] W λe w'=>∃S' b1 rV d1 b2 n2 d2 b3 n3 d3 b4 n4 d4 l2,e= .returned (.agg #[.slice b1 rV d1,.slice b2 n2 d2,.slice b3 n3 d3,.slice b4 n4 d4])/\Mp9 (λb=>n1<=b) S' w' 3 b1 rV d1 b2 n2 d2 b3 n3 d3 b4 n4 d4 l2/\Below W.heap.size W w':=by
 exact b5s n1 S W (Nat.le_trans hM.sz hM.bel.size) _ _ _ _ _ _ _ _ _ _ _ _ l hM.m xa xn xc hx
def FMd (n1 nn BM:Nat)(da:Option Addr)(dn dc:Nat)(ga:Option Addr)(gn gc:Nat)(a1:Option Addr)(m1 c1:Nat)(a2:Option Addr)(m2 c2:Nat)(a3:Option Addr)(m3 c3:Nat)(a4:Option Addr)(m4 c4:Nat)(i:Nat)(v:Vu)(w:Wd):Prop :=
 match i with
 |0=>v= .agg #[.slice a1 m1 c1,.slice a2 m2 c2,.slice a3 m3 c3,.slice a4 m4 c4]
 |1=>v= .agg #[.slice a1 m1 c1,.slice a2 m2 c2,.slice a3 m3 c3,.slice a4 m4 c4]
 |2=>v= .pointer (some ⟨nn,1,none⟩)
 |3=>v= .slice da dn dc
 |4=>∃b1 p1 d1 b2 p2 d2 b3 p3 d3 b4 p4 d4 l2 S3,v= .agg #[.slice b1 p1 d1,.slice b2 p2 d2,.slice b3 p3 d3,.slice b4 p4 d4]/\Mp9 (λb=>n1<=b) S3 w 3 b1 p1 d1 b2 p2 d2 b3 p3 d3 b4 p4 d4 l2
 |5=>v= .agg #[.slice a1 m1 c1,.slice a2 m2 c2,.slice a3 m3 c3,.slice a4 m4 c4]
 |6=>v= .pointer (some ⟨nn,2,none⟩)
 |7=>v= .slice ga gn gc
 |8=>∃b1 p1 d1 b2 p2 d2 b3 p3 d3 b4 p4 d4 l2 S3,v= .agg #[.slice b1 p1 d1,.slice b2 p2 d2,.slice b3 p3 d3,.slice b4 p4 d4]/\Mp9 (λb=>n1<=b) S3 w 3 b1 p1 d1 b2 p2 d2 b3 p3 d3 b4 p4 d4 l2
 |_=>False
theorem FMd.kept {n1 nn BM:Nat}{da:Option Addr}{dn dc:Nat}{ga:Option Addr}{gn gc:Nat}{a1:Option Addr}{m1 c1:Nat}{a2:Option Addr}{m2 c2:Nat}{a3:Option Addr}{m3 c3:Nat}{a4:Option Addr}{m4 c4:Nat}{i:Nat}{v:Vu}{w w':Wd}(h:FMd n1 nn BM da dn dc ga gn gc a1 m1 c1 a2 m2 c2 a3 m3 c3 a4 m4 c4 i v w)(hg:Below w.heap.size w w'):FMd n1 nn BM da dn dc ga gn gc a1 m1 c1 a2 m2 c2 a3 m3 c3 a4 m4 c4 i v w':=by
 unfold FMd at *;split at h
 all_goals first|exact h|(obtain⟨b1,p1,d1,b2,p2,d2,b3,p3,d3,b4,p4,d4,l2,S3,h1,h2⟩:=h;exact⟨b1,p1,d1,b2,p2,d2,b3,p3,d3,b4,p4,d4,l2,S3,h1,h2.up hg⟩)
def c7v (w:Wd)(e:Ending)(w':Wd):Prop :=
 ∃a1 m1 c1 a2 m2 c2 a3 m3 c3 a4 m4 c4 l S b1 n1 d1 b2 n2 d2 b3 n3 d3 b4 n4 d4 l2 S2 t1 s1 u1 t2 s2 u2 t3 s3 u3 t4 s4 u4 l3 S3 D,e= .returned (.tuple #[.agg #[.slice a1 m1 c1,.slice a2 m2 c2,.slice a3 m3 c3,.slice a4 m4 c4],.agg #[.slice b1 n1 d1,.slice b2 n2 d2,.slice b3 n3 d3,.slice b4 n4 d4],.agg #[.slice t1 s1 u1,.slice t2 s2 u2,.slice t3 s3 u3,.slice t4 s4 u4]])/\(Mp9 D S w' 0 a1 m1 c1 a2 m2 c2 a3 m3 c3 a4 m4 c4 l/\Mp9 D S2 w' 3 b1 n1 d1 b2 n2 d2 b3 n3 d3 b4 n4 d4 l2/\Mp9 D S3 w' 3 t1 s1 u1 t2 s2 u2 t3 s3 u3 t4 s4 u4 l3/\Below w.heap.size w w')
theorem c7w (la:Option Addr)(ak:Nat)(rows:List (Value×List Int))(da:Option Addr)(dn dc:Nat)(ga:Option Addr)(gn gc:Nat)(w:Wd)(hM:Mat w.heap.size w (.slice la rows.length ak) rows)(hd:Tri3 w.heap.size w da dn)(hg:Tri3 w.heap.size w ga gn) :
 Calls prog 5 #[.agg #[.slice la rows.length ak,.slice da dn dc,.slice ga gn gc]] w λe w'=>c7v w e w':=by
 obtain⟨_,_,e_,dZ,-⟩:=id hM
 cases e_;obtain⟨m,hm⟩:=zE (min rows.length 8);have oW:min (rows.length:Int) 8=(m:Nat):=xM;have ru:0<=(m:Int):=xM;have lU:(m:Int)<=(ak:Int):=xM;have mE:m<=ak:=xM;have zo:m<=rows.length:=xM;replace hm:=Lib.hid hm;obtain⟨nn,qk⟩:=zE w.heap.size;go_enter func5,ntmps5;go_upto_region 1 with fail;have kC:=(((Blk.new w #[.slice la rows.length ak,.slice da dn dc,.slice ga gn gc] 25).alloc (.cells #[.slice none 0 0,.slice none 0 0,.slice none 0 0,.slice none 0 0] 32)).alloc (.cells #[.slice none 0 0,.slice none 0 0,.slice none 0 0,.slice none 0 0] 32)).alloc (.cells #[.slice none 0 0,.slice none 0 0,.slice none 0 0,.slice none 0 0] 32);have kM:=((Blk.new (w.alloc (.cells #[.slice la rows.length ak,.slice da dn dc,.slice ga gn gc] 25)) #[.slice none 0 0,.slice none 0 0,.slice none 0 0,.slice none 0 0] 32).alloc (.cells #[.slice none 0 0,.slice none 0 0,.slice none 0 0,.slice none 0 0] 32)).alloc (.cells #[.slice none 0 0,.slice none 0 0,.slice none 0 0,.slice none 0 0] 32);have kO:=(Blk.new ((w.alloc (.cells #[.slice la rows.length ak,.slice da dn dc,.slice ga gn gc] 25)).alloc (.cells #[.slice none 0 0,.slice none 0 0,.slice none 0 0,.slice none 0 0] 32)) #[.slice none 0 0,.slice none 0 0,.slice none 0 0,.slice none 0 0] 32).alloc (.cells #[.slice none 0 0,.slice none 0 0,.slice none 0 0,.slice none 0 0] 32);have kS:=Blk.new (((w.alloc (.cells #[.slice la rows.length ak,.slice da dn dc,.slice ga gn gc] 25)).alloc (.cells #[.slice none 0 0,.slice none 0 0,.slice none 0 0,.slice none 0 0] 32)).alloc (.cells #[.slice none 0 0,.slice none 0 0,.slice none 0 0,.slice none 0 0] 32)) #[.slice none 0 0,.slice none 0 0,.slice none 0 0,.slice none 0 0] 32;obtain⟨W1,ao⟩:=zE ((((w.alloc (.cells #[.slice la rows.length ak,.slice da dn dc,.slice ga gn gc] 25)).alloc (.cells #[.slice none 0 0,.slice none 0 0,.slice none 0 0,.slice none 0 0] 32)).alloc (.cells #[.slice none 0 0,.slice none 0 0,.slice none 0 0,.slice none 0 0] 32)).alloc (.cells #[.slice none 0 0,.slice none 0 0,.slice none 0 0,.slice none 0 0] 32));have ah:Below w.heap.size w W1:=by rw[<-ao];exact((((zR _ _).alloc (yR _) _).alloc vM _).alloc uM _).alloc uM _
 simp only[World.size_alloc]at kM kO kS;rw[ao]at kC kM kO kS ⊢;clear ao;have bR:=((hM.below ah).mono ah.size).take m zo;have eN:=hd.up ah;have dL:=hg.up ah;rw[qk]at kC kM kO kS;have c0:W1.cell? ⟨nn,0,none⟩=some (.slice la rows.length ak):=kC.cell 0;go_upto_region 2 with(first
  |(go_at_call 15;(with_reducible refine(b5r _ _ _ bR).mono ?_);rintro e w2⟨S2,ev,fv,wv,pv,l,rfl,⟨⟨m1,cT,an⟩,⟨m2,jd,bZ⟩,m3,ue,je⟩,BW,iZ,aL,FK,eX⟩;obtain⟨a1,c1,rfl,-⟩:=cT.form;obtain⟨a2,c2,rfl,-⟩:=jd.form;obtain⟨a3,c3,rfl,-⟩:=ue.form;obtain⟨a4,c4,rfl,-⟩:=(a0g a2n aL xM).form;obtain⟨m4,fQ⟩:=zE l.length;have b8:=Mp9.of_made (n1:=W1.heap.size) eX cT jd ue aL an bZ je BW iZ (yR _) (yR _) rfl;rw[fQ]at b8 ⊢;replace fQ:=Lib.hid fQ;clear cT jd ue aL iZ FK))
 have aq:=eX.low39;have fV:Below w2.heap.size w2 (w2.alloc (.cells #[.slice a1 m1 c1,.slice a2 m2 c2,.slice a3 m3 c3,.slice a4 m4 c4] 32)):=(zR _ _).alloc (yR _) _;have kB:=Blk.new w2 #[.slice a1 m1 c1,.slice a2 m2 c2,.slice a3 m3 c3,.slice a4 m4 c4] 32;obtain⟨W3,eP⟩:=zE (w2.alloc (.cells #[.slice a1 m1 c1,.slice a2 m2 c2,.slice a3 m3 c3,.slice a4 m4 c4] 32));rw[eP]at fV kB ⊢;obtain⟨BM,bu⟩:=zE w2.heap.size;have gC:=b8.up fV;have ic:=aq.trans (fV.mono aq.size);have FL:=kC.below ic kC.lt;have BY:=kM.below ic kM.lt;have B0:=kO.below ic kO.lt;have Ca:=kS.below ic kS.lt;have lD:=eN.up ic;have zn:=dL.up ic;have aK:=ah.trans (ic.mono ah.size);have ck:=kS.lt;have bX:w.heap.size<=nn:=xM;obtain⟨n1,ug⟩:=zE W1.heap.size;have uh:n1<=W3.heap.size:=by rw[<-ug];exact ic.size
 rw[ug]at gC ck;rw[bu]at kB ⊢;clear eP bu c0 bR hM kC kM kO kS ic fV aq eN dL hd hg b8 eX ah ug BW;have FM:MdM S2 n1 nn BM (.slice la rows.length ak) da dn dc ga gn gc a1 m1 c1 a2 m2 c2 a3 m3 c3 a4 m4 c4 l W3 W3:=⟨FL,kB,gC,lD,zn,zR _ _,uh⟩;refine Go.wp_region_rel 9 zM zM (λ_ W=>MdM S2 n1 nn BM (.slice la rows.length ak) da dn dc ga gn gc a1 m1 c1 a2 m2 c2 a3 m3 c3 a4 m4 c4 l W3 W) (λw w'=>Below w.heap.size w w') (FMd n1 nn BM da dn dc ga gn gc a1 m1 c1 a2 m2 c2 a3 m3 c3 a4 m4 c4) (λ_ _ _ _ h g=>h.kept g) (FM.up (zR _ _).drew) ?step2 ?tail2
 case step2 =>
  clear FM FL BY B0 Ca aK kB gC lD zn uh ck bX qk;intro i o hi ho c bb W hc hM hA hD K hK;match i,hi,ho with
  |0,_,ho =>
   exact yau
  |1,_,ho =>
   exact yau
  |2,_,ho =>
   cases ho;have f1:=a0a (v:= .pointer (some ⟨nn,0,none⟩)) (hA.at_ (k:=1) zM);go_simp;exact hK (.pointer (some ⟨nn,1,none⟩)) W rfl (zR _ _) hM
  |3,_,ho =>
   cases ho;have f16:=a0a (v:= .pointer (some ⟨nn,1,none⟩)) (a0b hD 2 16 zM rfl rfl);have z0:W.cell? ⟨nn,1,none⟩=some (.slice da dn dc):=hM.c.cell 1;go_simp;exact hK (.slice da dn dc) W rfl (zR _ _) hM
  |4,_,ho =>
   cases ho;have f15:=a0a (v:= .agg #[.slice a1 m1 c1,.slice a2 m2 c2,.slice a3 m3 c3,.slice a4 m4 c4]) (a0b hD 1 15 zM rfl rfl);have f17:=a0a (v:= .slice da dn dc) (a0b hD 3 17 zM rfl rfl);go_simp;refine(a9z hM hM.d).mono ?_;exact ygr
  |5,_,ho =>
   exact yau
  |6,_,ho =>
   cases ho;have f1:=a0a (v:= .pointer (some ⟨nn,0,none⟩)) (hA.at_ (k:=1) zM);go_simp;exact hK (.pointer (some ⟨nn,2,none⟩)) W rfl (zR _ _) hM
  |7,_,ho =>
   cases ho;have f20:=a0a (v:= .pointer (some ⟨nn,2,none⟩)) (a0b hD 6 20 zM rfl rfl);have z0:W.cell? ⟨nn,2,none⟩=some (.slice ga gn gc):=hM.c.cell 2;go_simp;exact hK (.slice ga gn gc) W rfl (zR _ _) hM
  |8,_,ho =>
   cases ho;have f19:=a0a (v:= .agg #[.slice a1 m1 c1,.slice a2 m2 c2,.slice a3 m3 c3,.slice a4 m4 c4]) (a0b hD 5 19 zM rfl rfl);have f21:=a0a (v:= .slice ga gn gc) (a0b hD 7 21 zM rfl rfl);go_simp;refine(a9z hM hM.g).mono ?_;exact ygr
  |i+9,hi,_=>exact absurd hi xM
 case tail2 =>
  intro bb W' hM hA aa;have h14:bb.eval (.tmp 14)= .agg #[.slice a1 m1 c1,.slice a2 m2 c2,.slice a3 m3 c3,.slice a4 m4 c4]:=aa 0 xM _ _ rfl rfl;obtain⟨b1,p1,d1,b2,p2,d2,b3,p3,d3,b4,p4,d4,l2,S3,h18,Jf⟩:=(show ∃b1 p1 d1 b2 p2 d2 b3 p3 d3 b4 p4 d4 l2 S3,bb.eval (.tmp 18)= .agg #[.slice b1 p1 d1,.slice b2 p2 d2,.slice b3 p3 d3,.slice b4 p4 d4]/\Mp9 (λb=>n1<=b) S3 W' 3 b1 p1 d1 b2 p2 d2 b3 p3 d3 b4 p4 d4 l2 from aa 4 xM _ _ rfl rfl);obtain⟨t1,s1,u1,t2,s2,u2,t3,s3,u3,t4,s4,u4,l3,S4,h22,Jg⟩:=(show ∃t1 s1 u1 t2 s2 u2 t3 s3 u3 t4 s4 u4 l3 S4,bb.eval (.tmp 22)= .agg #[.slice t1 s1 u1,.slice t2 s2 u2,.slice t3 s3 u3,.slice t4 s4 u4]/\Mp9 (λb=>n1<=b) S4 W' 3 t1 s1 u1 t2 s2 u2 t3 s3 u3 t4 s4 u4 l3 from aa 8 xM _ _ rfl rfl);have az:=hA.frame [T,T,T,T,T,T,T,T,T,T,T,T,T,T,F,F,F,F,F,F,F,F,F] _ rfl zM;clear aa hA;obtain⟨f,hf⟩:=zDt bb;have g14:f 14= .agg #[.slice a1 m1 c1,.slice a2 m2 c2,.slice a3 m3 c3,.slice a4 m4 c4]:=by rw[<-hf,<-h14];rfl
  have g18:f 18= .agg #[.slice b1 p1 d1,.slice b2 p2 d2,.slice b3 p3 d3,.slice b4 p4 d4]:=by rw[<-hf,<-h18];rfl
  have g22:f 22= .agg #[.slice t1 s1 u1,.slice t2 s2 u2,.slice t3 s3 u3,.slice t4 s4 u4]:=by rw[<-hf,<-h22];rfl
  rw[hf]at az;clear hf h14 h18 h22;subst az;simp only[a1j,g14,g18,g22,Nat.reduceAdd];clear g14 g18 g22;simp only[zU];have Cb:=BY.below hM.bel BY.lt;have mI:=B0.below hM.bel B0.lt;have Cc:=Ca.below hM.bel Ca.lt;have lV:=aK.trans (hM.bel.mono aK.size);have Jh:=hM.m;clear hM FM FL BY B0 Ca kB gC aK lD zn;obtain⟨e0,e1,e2,e3⟩:=zN4 Cb;obtain⟨o0,o1,o2,o3⟩:=zN4 mI;obtain⟨r0,r1,r2,r3⟩:=zN4 Cc;have fe:=Cb.frozen;have fo:=mI.frozen;have ft:=Cc.frozen;have zq:nn+1≠nn+1+1:=xM;have eW:nn+1≠nn+1+1+1:=xM;have zr:nn+1+1≠nn+1+1+1:=xM;have NK:=((Cb.set39 (.slice a1 m1 c1) (.slice a2 m2 c2) (.slice a3 m3 c3) (.slice a4 m4 c4)).not39 zq (.slice b1 p1 d1) (.slice b2 p2 d2) (.slice b3 p3 d3) (.slice b4 p4 d4)).not39 eW (.slice t1 s1 u1) (.slice t2 s2 u2) (.slice t3 s3 u3) (.slice t4 s4 u4);have NL:=((mI.not39 zq.symm (.slice a1 m1 c1) (.slice a2 m2 c2) (.slice a3 m3 c3) (.slice a4 m4 c4)).set39 (.slice b1 p1 d1) (.slice b2 p2 d2) (.slice b3 p3 d3) (.slice b4 p4 d4)).not39 zr (.slice t1 s1 u1) (.slice t2 s2 u2) (.slice t3 s3 u3) (.slice t4 s4 u4);have NM:=((Cc.not39 eW.symm (.slice a1 m1 c1) (.slice a2 m2 c2) (.slice a3 m3 c3) (.slice a4 m4 c4)).not39 zr.symm (.slice b1 p1 d1) (.slice b2 p2 d2) (.slice b3 p3 d3) (.slice b4 p4 d4)).set39 (.slice t1 s1 u1) (.slice t2 s2 u2) (.slice t3 s3 u3) (.slice t4 s4 u4);have pN:=b8q (b8q (b8q lV (B:=nn+1) xM (.slice a1 m1 c1) (.slice a2 m2 c2) (.slice a3 m3 c3) (.slice a4 m4 c4)) (B:=nn+1+1) xM (.slice b1 p1 d1) (.slice b2 p2 d2) (.slice b3 p3 d3) (.slice b4 p4 d4)) (B:=nn+1+1+1) xM (.slice t1 s1 u1) (.slice t2 s2 u2) (.slice t3 s3 u3) (.slice t4 s4 u4);have hs:∀b,n1<=b->b<W'.heap.size->(a3r (a3r (a3r W' (nn+1) (.slice a1 m1 c1) (.slice a2 m2 c2) (.slice a3 m3 c3) (.slice a4 m4 c4)) (nn+1+1) (.slice b1 p1 d1) (.slice b2 p2 d2) (.slice b3 p3 d3) (.slice b4 p4 d4)) (nn+1+1+1) (.slice t1 s1 u1) (.slice t2 s2 u2) (.slice t3 s3 u3) (.slice t4 s4 u4)).heap[b]? =W'.heap[b]? :=λb hb _=>by
   rw[a9w xM,a9w xM,a9w xM]
  have fA:=Jh.same hs;have fB:=Jf.same hs;have fT:=Jg.same hs;clear Cb mI Cc Jh Jf Jg hs lV uh;go_wp2_with fail;exact bodyPost_ret (a9i qM qM NK underlying32 qM zM qM NL underlying32 qM zM qM NM underlying32 qM zM) rfl (show c7v _ _ _ from⟨_,_,_,_,_,_,_,_,_,_,_,_,_,_,_,_,_,_,_,_,_,_,_,_,_,_,_,_,_,_,_,_,_,_,_,_,_,_,_,_,_,_,_,rfl,fA,fB,fT,pN⟩)
end
end Go.Proofs.YteijfnkidefekaaGreat
