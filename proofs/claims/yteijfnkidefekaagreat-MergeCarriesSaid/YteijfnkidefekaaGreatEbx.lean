/-
  Parts.
-/
import Derived.Test.YteijfnkidefekaaGreatEbw
set_option linter.unusedVariables false
set_option linter.unusedSimpArgs false
set_option linter.unusedSectionVars false
set_option maxHeartbeats 8000000
set_option maxRecDepth 100000
namespace Go.Proofs.YteijfnkidefekaaGreat
open Tryz
section
open Go Go.RowKit Go.Shelf Go.Lib Go.Maps
variable{Q:List Pc}{B11 B14 B8 eG n0 qc qn vc:Nat}{fh qa va:Option Addr}{W W' W0 w dx:Wd}
theorem c9l {Z:Nat}{M N O:Mv}(h:Blk W Z #[.slice M.x0 M.E.length M.c0,.slice M.x1 M.Fa.length M.c1,.slice M.x2 M.Y.length M.c2,.slice M.x3 M.P.length M.c3,.slice N.x0 N.E.length N.c0,.slice N.x1 N.Fa.length N.c1,.slice N.x2 N.Y.length N.c2,.slice N.x3 N.P.length N.c3,.slice N.x0 N.E.length N.c0,.slice N.x1 N.Fa.length N.c1,.slice N.x2 N.Y.length N.c2,.slice N.x3 N.P.length N.c3,.slice O.x0 O.E.length O.c0,.slice O.x1 O.Fa.length O.c1,.slice O.x2 O.Y.length O.c2,.slice O.x3 O.P.length O.c3,.slice O.x0 O.E.length O.c0,.slice O.x1 O.Fa.length O.c1,.slice O.x2 O.Y.length O.c2,.slice O.x3 O.P.length O.c3,.slice M.x0 M.E.length M.c0,.slice M.x1 M.Fa.length M.c1,.slice M.x2 M.Y.length M.c2,.slice M.x3 M.P.length M.c3] 35)(oM:M.Ok W)(oN:N.Ok W)(oO:O.Ok W)(k:Nat)(hk:k<3):∃A B:Mv,A.Ok W/\B.Ok W/\W.cell? ⟨Z,k*8,none⟩=some (.slice A.x0 A.E.length A.c0)/\W.cell? ⟨Z,k*8+1,none⟩=some (.slice A.x1 A.Fa.length A.c1)/\W.cell? ⟨Z,k*8+2,none⟩=some (.slice A.x2 A.Y.length A.c2)/\W.cell? ⟨Z,k*8+3,none⟩=some (.slice A.x3 A.P.length A.c3)/\W.cell? ⟨Z,k*8+4,none⟩=some (.slice B.x0 B.E.length B.c0)/\W.cell? ⟨Z,k*8+5,none⟩=some (.slice B.x1 B.Fa.length B.c1)/\W.cell? ⟨Z,k*8+6,none⟩=some (.slice B.x2 B.Y.length B.c2)/\W.cell? ⟨Z,k*8+7,none⟩=some (.slice B.x3 B.P.length B.c3):=by
 match k,hk with
 |0,_=>exact⟨M,N,oM,oN,h.cell 0,h.cell 1,h.cell 2,h.cell 3,h.cell 4,h.cell 5,h.cell 6,h.cell 7⟩
 |1,_=>exact⟨N,O,oN,oO,h.cell 8,h.cell 9,h.cell 10,h.cell 11,h.cell 12,h.cell 13,h.cell 14,h.cell 15⟩
 |2,_=>exact⟨O,M,oO,oM,h.cell 16,h.cell 17,h.cell 18,h.cell 19,h.cell 20,h.cell 21,h.cell 22,h.cell 23⟩
structure LwI (w:Wd)(BP B4:Nat)(M N O:Mv)(W:Wd):Prop where
 p:Blk W BP #[.slice M.x0 M.E.length M.c0,.slice M.x1 M.Fa.length M.c1,.slice M.x2 M.Y.length M.c2,.slice M.x3 M.P.length M.c3,.slice N.x0 N.E.length N.c0,.slice N.x1 N.Fa.length N.c1,.slice N.x2 N.Y.length N.c2,.slice N.x3 N.P.length N.c3,.slice N.x0 N.E.length N.c0,.slice N.x1 N.Fa.length N.c1,.slice N.x2 N.Y.length N.c2,.slice N.x3 N.P.length N.c3,.slice O.x0 O.E.length O.c0,.slice O.x1 O.Fa.length O.c1,.slice O.x2 O.Y.length O.c2,.slice O.x3 O.P.length O.c3,.slice O.x0 O.E.length O.c0,.slice O.x1 O.Fa.length O.c1,.slice O.x2 O.Y.length O.c2,.slice O.x3 O.P.length O.c3,.slice M.x0 M.E.length M.c0,.slice M.x1 M.Fa.length M.c1,.slice M.x2 M.Y.length M.c2,.slice M.x3 M.P.length M.c3] 35
 k:Blk W B4 M.A 32
 m:M.Ok W
 n:N.Ok W
 o:O.Ok W
 b:Below w.heap.size w W
theorem LwI.up {BP B4:Nat}{M N O:Mv}(h:LwI w BP B4 M N O W)(hb:Below W.heap.size W W'):LwI w BP B4 M N O W' :=
 ⟨h.p.below hb h.p.lt,h.k.below hb h.k.lt,h.m.up hb,h.n.up hb,h.o.up hb,h.b.trans (hb.mono h.b.size)⟩
structure RgM (W6:Wd)(B8 B11:Nat)(A B C:Mv)(W:Wd):Prop where
 b:Blk W B11 C.A 32
 p:Blk W B8 #[.slice A.x0 A.E.length A.c0,.slice A.x1 A.Fa.length A.c1,.slice A.x2 A.Y.length A.c2,.slice A.x3 A.P.length A.c3,.slice B.x0 B.E.length B.c0,.slice B.x1 B.Fa.length B.c1,.slice B.x2 B.Y.length B.c2,.slice B.x3 B.P.length B.c3] 35
 c:C.In W.heap.size W
 n:B.In W.heap.size W
 l:∀c d,NormR C.key c->NormR B.key d->c=d
 bel:Below W6.heap.size W6 W
theorem RgM.up {W6:Wd}{A B C:Mv}(h:RgM W6 B8 B11 A B C W)(hb:Below W.heap.size W W'):RgM W6 B8 B11 A B C W' :=
 ⟨h.b.below hb h.b.lt,h.p.below hb h.p.lt,h.c.up hb,h.n.up hb,h.l,h.bel.trans (hb.mono h.bel.size)⟩
def FRg (B8 B11:Nat)(A B C:Mv)(i:Nat)(v:Vu)(w:Wd):Prop :=
 match i with
 |0=>v= .agg #[.slice C.x0 C.E.length C.c0,.slice C.x1 C.Fa.length C.c1,.slice C.x2 C.Y.length C.c2,.slice C.x3 C.P.length C.c3]
 |1=>∃V:Mv,v= .agg V.A/\V.In w.heap.size w/\NormR C.key V.key
 |2=>v= .pointer (some ⟨B8,4,none⟩)
 |3=>v= .agg #[.slice B.x0 B.E.length B.c0,.slice B.x1 B.Fa.length B.c1,.slice B.x2 B.Y.length B.c2,.slice B.x3 B.P.length B.c3]
 |4=>∃V:Mv,v= .agg V.A/\V.In w.heap.size w/\NormR B.key V.key
 |5=>v= .bool true
 |_=>False
theorem FRg.kept {A B C:Mv}{i:Nat}{v:Vu}{w':Wd}(h:FRg B8 B11 A B C i v w)(hg:Below w.heap.size w w'):FRg B8 B11 A B C i v w':=by
 unfold FRg at *;split at h
 all_goals first|exact h|(obtain⟨V,h1,h2,h3⟩:=h;exact⟨V,h1,h2.up hg,h3⟩)
structure TnP (n0 B14:Nat)(M:Mv)(W0:Wd)(l:List Pc)(va:Option Addr)(vc:Nat)(W:Wd):Prop where
 b:Blk W B14 #[.slice M.x0 M.E.length M.c0,.slice M.x1 M.Fa.length M.c1,.slice none 0 0,.slice va l.length vc] 32
 r:W.ownsRow n0 48 7 (.slice va l.length vc) l.length (l.flatMap plE.enc)
 bel:Below n0 W0 W
theorem TnP.put {M:Mv}{l:List Pc}(h:TnP n0 B14 M W0 l va vc W)(hB:n0<=B14)(x:Pc)(hr:dx.ownsRow n0 48 7 (.slice fh (l++[x]).length eG) (l++[x]).length ((l++[x]).flatMap plE.enc))(kM:Blk dx B14 #[.slice M.x0 M.E.length M.c0,.slice M.x1 M.Fa.length M.c1,.slice none 0 0,.slice va l.length vc] 32)(hb:Below n0 W.drew dx):TnP n0 B14 M W0 (l++[x]) fh eG (dx.setCell ⟨B14,3,none⟩ (.slice fh (l.length+1) eG)):=by
 have hlen:(l++[x]).length=l.length+1:=by simp
 have aB:=a0d dx B14 3 (.slice fh (l.length+1) eG);have fK:=a0y hr kM jM;refine⟨?_,hr.kept aB (.inr fK),(h.bel.drew.trans hb).setCell hB _⟩;rw[hlen];exact kM.set 3 _
theorem c8i {b1 b2:Nat}{e1 e2:Td}{s1 s2:Nat}{v1 v2:Vu}{n1 n2:Nat}{xs ys:List Value}(h1:W.ownsRow b1 e1 s1 v1 n1 xs)(h2:W.ownsRow b2 e2 s2 v2 n2 ys)(he:e1≠e2):v1.ownBlock=none\/v1.ownBlock≠v2.ownBlock:=by
 cases hg:v2.ownBlock with
 |none=>cases h:v1.ownBlock with
  |none=>exact .inl rfl
  |some g=>exact .inr vM
 |some g =>
  obtain⟨cur,k⟩:=c0a h2 g hg;exact .inr (a0y h1 k he)
structure TnW (n0 B14:Nat)(M:Mv)(W0:Wd)(Q:List Pc)(qa:Option Addr)(qn qc:Nat)(l:List Wq)(va:Option Addr)(vc:Nat)(W:Wd):Prop where
 b:Blk W B14 #[.slice M.x0 M.E.length M.c0,.slice M.x1 M.Fa.length M.c1,.slice va l.length vc,.slice qa qn qc] 32
 q:W.ownsRow n0 48 7 (.slice qa qn qc) Q.length (Q.flatMap plE.enc)
 r:W.ownsRow n0 46 8 (.slice va l.length vc) l.length (l.flatMap wqE.enc)
 bel:Below n0 W0 W
theorem TnW.put {M:Mv}{l:List Wq}(h:TnW n0 B14 M W0 Q qa qn qc l va vc W)(hB:n0<=B14)(x:Wq)(hr:dx.ownsRow n0 46 8 (.slice fh (l++[x]).length eG) (l++[x]).length ((l++[x]).flatMap wqE.enc))(kM:Blk dx B14 #[.slice M.x0 M.E.length M.c0,.slice M.x1 M.Fa.length M.c1,.slice va l.length vc,.slice qa qn qc] 32)(hg:W.drew.grownBy dx (Value.slice va l.length vc).ownBlock)(hb:Below n0 W.drew dx):TnW n0 B14 M W0 Q qa qn qc (l++[x]) fh eG (dx.setCell ⟨B14,2,none⟩ (.slice fh (l.length+1) eG)):=by
 have hlen:(l++[x]).length=l.length+1:=by simp
 have aB:=a0d dx B14 2 (.slice fh (l.length+1) eG);have Lc:W.drew.ownsRow n0 48 7 (.slice qa qn qc) Q.length (Q.flatMap plE.enc):=a0c h.q (zR _ _).drew;have mH:W.drew.ownsRow n0 46 8 (.slice va l.length vc) l.length (l.flatMap wqE.enc):=a0c h.r (zR _ _).drew;have gY:=Lc.kept hg (c8i Lc mH jM);refine⟨?_,gY.kept aB (.inr (a0y gY kM jM)),hr.kept aB (.inr (a0y hr kM jM)),(h.bel.drew.trans hb).setCell hB _⟩;rw[hlen];exact kM.set 2 _
theorem TnW.turn {M:Mv}{l:List Wq}(h:TnW n0 B14 M W0 Q qa qn qc l va vc W)(hM:M.Ok W)(hQ:Q=M.P.reverse)(hL:l=M.Y.reverse)(hq:Q.length=qn):∃T:Mv,T.Ok W/\Turn M T/\Blk W B14 T.A 32:=by
 have h1:=hM.y;have h2:=hM.p;have hl:l.length=M.Y.length:=by rw[hL,List.length_reverse]
 have oX:Q.length=M.P.length:=by rw[hQ,List.length_reverse]
 have hr:=h.r;have Ld:=h.q;have hb:=h.b;subst hq;have b1:l.length<=1000:=xM;have b2:Q.length<=1000:=xM;refine⟨⟨M.x0,M.c0,M.E,M.x1,M.c1,M.Fa,va,vc,l,qa,qc,Q⟩,⟨⟨{ hM.i.m with w:=a0g a6d hr (Nat.le_trans b1 jM),wf:=a5x hr,wl:=λx hx=>hM.i.m.wl x (by rw[hL]at hx;exact List.mem_reverse.1 hx),p:=a0g a2n Ld (Nat.le_trans b2 jM),pf:=a5x Ld,nw:=b1,np:=b2,wi:=λx hx=>hM.i.m.wi x (by rw[hL]at hx;exact List.mem_reverse.1 hx),pi:=λx hx=>hM.i.m.pi x (by rw[hQ]at hx;exact List.mem_reverse.1 hx) }⟩,hM.e,by show l.length<=23;omega,by show Q.length<=252;omega⟩,⟨rfl,rfl,hL,hQ⟩,hb⟩
theorem c9m (la:Option Addr)(ak:Nat)(rows:List (Value×List Int))(da:Option Addr)(dn dc:Nat)(ga:Option Addr)(gn gc:Nat)(w:Wd)(hM:Mat w.heap.size w (.slice la rows.length ak) rows)(hd:Tri3 w.heap.size w da dn)(hg:Tri3 w.heap.size w ga gn):
 Zc prog 3 #[.agg #[.slice la rows.length ak,.slice da dn dc,.slice ga gn gc]] w (.bool true):=by
 have Hx:∀X,Below w.heap.size w X->Calls prog 5 #[.agg #[.slice la rows.length ak,.slice da dn dc,.slice ga gn gc]] X λe w'=>c8d X e w':=λX hb =>
  c9e la ak rows da dn dc ga gn gc X ((hM.below hb).mono hb.size) (hd.up hb) (hg.up hb)
 obtain⟨rn,rY⟩:=zE rows.length;rw[rY]at Hx ⊢;clear rY hM hd hg;go_enter func3,ntmps3;have kC:=Blk.new w #[.slice la rn ak,.slice da dn dc,.slice ga gn gc] 25;have bE:Below w.heap.size w (w.alloc (.cells #[.slice la rn ak,.slice da dn dc,.slice ga gn gc] 25)):=(zR _ _).alloc (yR _) _;go_upto_region 1 with fail;obtain⟨W0,dH⟩:=zE (w.alloc (.cells #[.slice la rn ak,.slice da dn dc,.slice ga gn gc] 25));rw[dH]at kC bE ⊢;clear dH;obtain⟨nn,qk⟩:=zE w.heap.size;rw[qk]at kC;go_upto_region 2 with(first
  |(go_at_call 4;(with_reducible refine(c4w _).mono ?_);rintro e W1⟨rfl,ah⟩))
 have et:=bE.trans (ah.mono bE.size);replace kC:=kC.below ah kC.lt;clear ah bE;obtain⟨l0,l1,l2⟩:=zN3 kC;clear kC;go_upto_region 3 with(first
  |(go_at_call 5;(with_reducible refine(Hx _ et).mono ?_);rintro e W2⟨M,N,O,rfl,oM,oN,oO,aq⟩))
 have kM:=((Blk.new W2 #[.slice M.x0 M.E.length M.c0,.slice M.x1 M.Fa.length M.c1,.slice M.x2 M.Y.length M.c2,.slice M.x3 M.P.length M.c3] 32).alloc (.cells #[.slice N.x0 N.E.length N.c0,.slice N.x1 N.Fa.length N.c1,.slice N.x2 N.Y.length N.c2,.slice N.x3 N.P.length N.c3] 32)).alloc (.cells #[.slice O.x0 O.E.length O.c0,.slice O.x1 O.Fa.length O.c1,.slice O.x2 O.Y.length O.c2,.slice O.x3 O.P.length O.c3] 32);have kN:=(Blk.new (W2.alloc (.cells #[.slice M.x0 M.E.length M.c0,.slice M.x1 M.Fa.length M.c1,.slice M.x2 M.Y.length M.c2,.slice M.x3 M.P.length M.c3] 32)) #[.slice N.x0 N.E.length N.c0,.slice N.x1 N.Fa.length N.c1,.slice N.x2 N.Y.length N.c2,.slice N.x3 N.P.length N.c3] 32).alloc (.cells #[.slice O.x0 O.E.length O.c0,.slice O.x1 O.Fa.length O.c1,.slice O.x2 O.Y.length O.c2,.slice O.x3 O.P.length O.c3] 32);have kO:=Blk.new ((W2.alloc (.cells #[.slice M.x0 M.E.length M.c0,.slice M.x1 M.Fa.length M.c1,.slice M.x2 M.Y.length M.c2,.slice M.x3 M.P.length M.c3] 32)).alloc (.cells #[.slice N.x0 N.E.length N.c0,.slice N.x1 N.Fa.length N.c1,.slice N.x2 N.Y.length N.c2,.slice N.x3 N.P.length N.c3] 32)) #[.slice O.x0 O.E.length O.c0,.slice O.x1 O.Fa.length O.c1,.slice O.x2 O.Y.length O.c2,.slice O.x3 O.P.length O.c3] 32;simp only[World.size_alloc]at kN kO;have fV:Below W2.heap.size W2 (((W2.alloc (.cells #[.slice M.x0 M.E.length M.c0,.slice M.x1 M.Fa.length M.c1,.slice M.x2 M.Y.length M.c2,.slice M.x3 M.P.length M.c3] 32)).alloc (.cells #[.slice N.x0 N.E.length N.c0,.slice N.x1 N.Fa.length N.c1,.slice N.x2 N.Y.length N.c2,.slice N.x3 N.P.length N.c3] 32)).alloc (.cells #[.slice O.x0 O.E.length O.c0,.slice O.x1 O.Fa.length O.c1,.slice O.x2 O.Y.length O.c2,.slice O.x3 O.P.length O.c3] 32)):=by exact zC
 obtain⟨W3,eP⟩:=zE (((W2.alloc (.cells #[.slice M.x0 M.E.length M.c0,.slice M.x1 M.Fa.length M.c1,.slice M.x2 M.Y.length M.c2,.slice M.x3 M.P.length M.c3] 32)).alloc (.cells #[.slice N.x0 N.E.length N.c0,.slice N.x1 N.Fa.length N.c1,.slice N.x2 N.Y.length N.c2,.slice N.x3 N.P.length N.c3] 32)).alloc (.cells #[.slice O.x0 O.E.length O.c0,.slice O.x1 O.Fa.length O.c1,.slice O.x2 O.Y.length O.c2,.slice O.x3 O.P.length O.c3] 32));rw[eP]at kM kN kO fV ⊢;clear eP l0 l1 l2 Hx qk;have a8:=et.trans (aq.mono et.size);have aK:=a8.trans (fV.mono a8.size);replace oM:=oM.up fV;replace oN:=oN.up fV;replace oO:=oO.up fV;clear aq fV et a8;obtain⟨B4,jc⟩:=zE W2.heap.size;rw[jc]at kM kN kO ⊢;obtain⟨B5,lH⟩:=zE (B4+1);rw[lH]at kN kO ⊢;obtain⟨B6,rR⟩:=zE (B5+1);rw[rR]at kO ⊢;clear jc lH rR;obtain⟨m0,m1,m2,m3⟩:=zN4 kM;obtain⟨n0,n1,n2,n3⟩:=zN4 kN;obtain⟨o0,o1,o2,o3⟩:=zN4 kO;go_upto_region 4 with fail;have kP:=Blk.new W3 #[.slice M.x0 M.E.length M.c0,.slice M.x1 M.Fa.length M.c1,.slice M.x2 M.Y.length M.c2,.slice M.x3 M.P.length M.c3,.slice N.x0 N.E.length N.c0,.slice N.x1 N.Fa.length N.c1,.slice N.x2 N.Y.length N.c2,.slice N.x3 N.P.length N.c3,.slice N.x0 N.E.length N.c0,.slice N.x1 N.Fa.length N.c1,.slice N.x2 N.Y.length N.c2,.slice N.x3 N.P.length N.c3,.slice O.x0 O.E.length O.c0,.slice O.x1 O.Fa.length O.c1,.slice O.x2 O.Y.length O.c2,.slice O.x3 O.P.length O.c3,.slice O.x0 O.E.length O.c0,.slice O.x1 O.Fa.length O.c1,.slice O.x2 O.Y.length O.c2,.slice O.x3 O.P.length O.c3,.slice M.x0 M.E.length M.c0,.slice M.x1 M.Fa.length M.c1,.slice M.x2 M.Y.length M.c2,.slice M.x3 M.P.length M.c3] 35;have fm:Below W3.heap.size W3 (W3.alloc (.cells #[.slice M.x0 M.E.length M.c0,.slice M.x1 M.Fa.length M.c1,.slice M.x2 M.Y.length M.c2,.slice M.x3 M.P.length M.c3,.slice N.x0 N.E.length N.c0,.slice N.x1 N.Fa.length N.c1,.slice N.x2 N.Y.length N.c2,.slice N.x3 N.P.length N.c3,.slice N.x0 N.E.length N.c0,.slice N.x1 N.Fa.length N.c1,.slice N.x2 N.Y.length N.c2,.slice N.x3 N.P.length N.c3,.slice O.x0 O.E.length O.c0,.slice O.x1 O.Fa.length O.c1,.slice O.x2 O.Y.length O.c2,.slice O.x3 O.P.length O.c3,.slice O.x0 O.E.length O.c0,.slice O.x1 O.Fa.length O.c1,.slice O.x2 O.Y.length O.c2,.slice O.x3 O.P.length O.c3,.slice M.x0 M.E.length M.c0,.slice M.x1 M.Fa.length M.c1,.slice M.x2 M.Y.length M.c2,.slice M.x3 M.P.length M.c3] 35)):=(zR _ _).alloc (yR _) _;obtain⟨W4,cU⟩:=zE (W3.alloc (.cells #[.slice M.x0 M.E.length M.c0,.slice M.x1 M.Fa.length M.c1,.slice M.x2 M.Y.length M.c2,.slice M.x3 M.P.length M.c3,.slice N.x0 N.E.length N.c0,.slice N.x1 N.Fa.length N.c1,.slice N.x2 N.Y.length N.c2,.slice N.x3 N.P.length N.c3,.slice N.x0 N.E.length N.c0,.slice N.x1 N.Fa.length N.c1,.slice N.x2 N.Y.length N.c2,.slice N.x3 N.P.length N.c3,.slice O.x0 O.E.length O.c0,.slice O.x1 O.Fa.length O.c1,.slice O.x2 O.Y.length O.c2,.slice O.x3 O.P.length O.c3,.slice O.x0 O.E.length O.c0,.slice O.x1 O.Fa.length O.c1,.slice O.x2 O.Y.length O.c2,.slice O.x3 O.P.length O.c3,.slice M.x0 M.E.length M.c0,.slice M.x1 M.Fa.length M.c1,.slice M.x2 M.Y.length M.c2,.slice M.x3 M.P.length M.c3] 35));rw[cU]at kP fm ⊢;obtain⟨BP,gS⟩:=zE W3.heap.size;have hI:LwI w BP B4 M N O W4:=⟨gS▸kP,kM.below fm kM.lt,oM.up fm,oN.up fm,oO.up fm,aK.trans (fm.mono aK.size)⟩;rw[gS]at ⊢;clear cU kP fm kM kN kO oM oN oO aK m0 m1 m2 m3 n0 n1 n2 n3 o0 o1 o2 o3 gS;go_loopw [37] (λv wq=>∃k:Nat,k<=3/\v= .int .i64 (k:Nat)/\LwI w BP B4 M N O wq) (λv wq=>3-(intOf v).toNat)
 case atStart=>exact⟨0,Nat.zero_le _,rfl,hI⟩
 case round =>
  obtain⟨k,hk,rfl,hR⟩:=hrel;by_cases ab:k<3
  ·have aj:(k:Int)<3:=xM
   obtain⟨A,B,oA,oB,q0,q1,q2,q3,q4,q5,q6,q7⟩:=c9l hR.p hR.m hR.n hR.o k ab;go_upto_region 6 with fail;have k8:=Blk.new wr #[.slice A.x0 A.E.length A.c0,.slice A.x1 A.Fa.length A.c1,.slice A.x2 A.Y.length A.c2,.slice A.x3 A.P.length A.c3,.slice B.x0 B.E.length B.c0,.slice B.x1 B.Fa.length B.c1,.slice B.x2 B.Y.length B.c2,.slice B.x3 B.P.length B.c3] 35;have aI:Below wr.heap.size wr (wr.alloc (.cells #[.slice A.x0 A.E.length A.c0,.slice A.x1 A.Fa.length A.c1,.slice A.x2 A.Y.length A.c2,.slice A.x3 A.P.length A.c3,.slice B.x0 B.E.length B.c0,.slice B.x1 B.Fa.length B.c1,.slice B.x2 B.Y.length B.c2,.slice B.x3 B.P.length B.c3] 35)):=(zR _ _).alloc (yR _) _;obtain⟨W5,bL⟩:=zE (wr.alloc (.cells #[.slice A.x0 A.E.length A.c0,.slice A.x1 A.Fa.length A.c1,.slice A.x2 A.Y.length A.c2,.slice A.x3 A.P.length A.c3,.slice B.x0 B.E.length B.c0,.slice B.x1 B.Fa.length B.c1,.slice B.x2 B.Y.length B.c2,.slice B.x3 B.P.length B.c3] 35));rw[bL]at k8 aI ⊢;obtain⟨B8,AG⟩:=zE wr.heap.size;replace oA:=oA.up aI;replace oB:=oB.up aI;replace hR:=hR.up aI;rw[AG]at k8 ⊢;clear bL AG aI q0 q1 q2 q3 q4 q5 q6 q7;obtain⟨q0,q1,q2,q3,q4,q5,q6,q7⟩:=zN8 k8;have AK:=c8e A B W5 oA oB;go_upto_region 7 with(first
    |(go_at_call 6;(with_reducible refine Calls.mono AK ?_);rintro e W6⟨bC,⟨rfl,-⟩|⟨ex,ec,es,n,rfl,eZ,hL,hG,hO⟩⟩))
   all_goals clear q0 q1 q2 q3 q4 q5 q6 q7 AK
   ·replace hR:=hR.up bC
    go_wp2_with fail;go_roundw
    case rel=>exact⟨k+1,xM,by go_num,hR⟩
    case measure=>simp[intOf];omega
   ·replace hR:=hR.up bC
    replace oA:=oA.up bC;replace oB:=oB.up bC;replace k8:=k8.below bC k8.lt;clear bC;obtain⟨q0,q1,q2,q3,q4,q5,q6,q7⟩:=zN8 k8;go_upto_region 11 with fail;have qR:=Blk.new W6 #[.slice A.x0 A.E.length A.c0,.slice A.x1 A.Fa.length A.c1,.slice A.x2 A.Y.length A.c2,.slice A.x3 A.P.length A.c3] 32;have iz:Below W6.heap.size W6 (W6.alloc (.cells #[.slice A.x0 A.E.length A.c0,.slice A.x1 A.Fa.length A.c1,.slice A.x2 A.Y.length A.c2,.slice A.x3 A.P.length A.c3] 32)):=(zR _ _).alloc (yR _) _;obtain⟨W7,lJ⟩:=zE (W6.alloc (.cells #[.slice A.x0 A.E.length A.c0,.slice A.x1 A.Fa.length A.c1,.slice A.x2 A.Y.length A.c2,.slice A.x3 A.P.length A.c3] 32));rw[lJ]at qR iz ⊢;obtain⟨B11,ml⟩:=zE W6.heap.size;have bX:W6.heap.size<=B11:=xM;have hI:InM A B es W6 B11 0 A W7:=⟨ml▸qR,⟨oA.i.up iz,rfl⟩,iz⟩;rw[ml]at ⊢;clear lJ qR iz q0 q1 q2 q3 q4 q5 q6 q7 ml;have pQ:n<=1000000:=eZ▸hL.len;go_upto_region 12 with fail;go_loopw [58] (λv wq=>∃(j:Nat) (C:Mv),j<=n/\v= .int .i64 (j:Nat)/\InM A B es W6 B11 j C wq) (λv wq=>n-(intOf v).toNat)
    case atStart=>exact⟨0,A,Nat.zero_le _,rfl,hI⟩
    case round =>
     obtain⟨j,C,hj,rfl,hC⟩:=hrel;by_cases iM:j<n
     ·have IN:(j:Int)<(n:Int):=xM
      obtain⟨eb,off,cp,hv,-,bS,hc⟩:=hL.some_ xM;simp only[Value.slice.injEq]at hv;obtain⟨rfl,-,rfl⟩:=hv;have Le:j<es.length:=xM;obtain⟨x,hx⟩:=zE (es[j]);have g1:AtC etE W6 eb (off+j*25) x:=λi hi=>by rw[<-hx];exact hc j Le i hi
      have Lf:=hG x (by rw[<-hx];exact List.getElem_mem _);have g2:=g1.below hC.bel bS;clear g1 hc;have Lg:=hC.c.len oA oB hO;obtain⟨xv,aO⟩:=zE (etV x);go_upto_region 14 with(first
       |(refine a7z qM _ qM eb (off+j*25) qM x g2 _ aO ?_)
       |(refine a8y qM _ _ qM wr.heap.size rfl qM x (by exact aO.symm) ?_))
      try go_frame
      have CK:=Blk.new wr (etA x) 50;have iD:Below wr.heap.size wr (wr.alloc (.cells (etA x) 50)):=(zR _ _).alloc (yR _) _;obtain⟨W8,jN⟩:=zE (wr.alloc (.cells (etA x) 50));rw[jN]at CK iD ⊢;obtain⟨PC,AL⟩:=zE wr.heap.size;replace hC:=hC.up iD;rw[AL]at CK ⊢;have G3:=c8b CK;clear jN iD AL g2 CK;obtain⟨c0,c1,c2,c3⟩:=zN4 hC.b;have fc:=hC.b.frozen;have rW:=c8g C x W8 hC.c.i Lg.1 Lg.2 ⟨(Lf.1.below hC.bel).mono hC.bel.size,Lf.2⟩;rw[aO]at rW;go_upto_region 15 with(first
       |(refine a7z qM _ qM PC 0 qM x G3 _ aO ?_)
       |(go_at_call 7;(with_reducible refine rW.mono ?_);rintro e W9⟨C',rfl,Lh,sE,eS⟩;replace hC:=hC.up eS;clear c0 c1 c2 c3 fc;have c0:W9.cell? ⟨B11,0,none⟩=some (.slice C.x0 C.E.length C.c0):=hC.b.cell 0;have c1:W9.cell? ⟨B11,1,none⟩=some (.slice C.x1 C.Fa.length C.c1):=hC.b.cell 1;have c2:W9.cell? ⟨B11,2,none⟩=some (.slice C.x2 C.Y.length C.c2):=hC.b.cell 2;have c3:W9.cell? ⟨B11,3,none⟩=some (.slice C.x3 C.P.length C.c3):=hC.b.cell 3;have fc:=hC.b.frozen))
      have jo:=hC.put bX (hC.c.step Le Lh (hx▸sE));clear c0 c1 c2 c3 fc rW G3 hC Lh;go_wp2_with fail;go_roundw
      case rel=>exact⟨j+1,C',xM,by go_num,jo⟩
      case measure=>simp[intOf];omega
     ·obtain rfl:j=n:=xM
      have aT:¬(j:Int)<(j:Int):=xM;go_upto_region 16 with fail;have Hy:RgM W6 B8 B11 A B C wr:=⟨hC.b,k8.below hC.bel k8.lt,hC.c.i,(oB.up hC.bel).i,λc d h1 h2=>Now.law (eZ▸hC.c) hO h1 h2,hC.bel⟩;have Hz:=hR;clear hC hI hR k8 oA oB hO hG hL;refine Go.wp_region_rel 6 zM zM (λ_ W=>RgM W6 B8 B11 A B C W) (λw w'=>Below w.heap.size w w') (FRg B8 B11 A B C) (λ_ _ _ _ h g=>h.kept g) (Hy.up (zR _ _).drew) ?step ?tail
      case step =>
       clear Hy Hz;intro i o hi ho c bb W hc hM hA hD K hK;match i,hi,ho with
       |0,_,ho =>
        cases ho;have f11:=a0a (v:= .pointer (some ⟨B11,0,none⟩)) (hA.at_ (k:=11) zM);have z0:W.cell? ⟨B11,0,none⟩=some (.slice C.x0 C.E.length C.c0):=hM.b.cell 0;have z1:W.cell? ⟨B11,1,none⟩=some (.slice C.x1 C.Fa.length C.c1):=hM.b.cell 1;have z2:W.cell? ⟨B11,2,none⟩=some (.slice C.x2 C.Y.length C.c2):=hM.b.cell 2;have z3:W.cell? ⟨B11,3,none⟩=some (.slice C.x3 C.P.length C.c3):=hM.b.cell 3;go_simp;exact hK (.agg #[.slice C.x0 C.E.length C.c0,.slice C.x1 C.Fa.length C.c1,.slice C.x2 C.Y.length C.c2,.slice C.x3 C.P.length C.c3]) W rfl (zR _ _) hM
       |1,_,ho =>
        cases ho;have f66:=a0a (v:= .agg #[.slice C.x0 C.E.length C.c0,.slice C.x1 C.Fa.length C.c1,.slice C.x2 C.Y.length C.c2,.slice C.x3 C.P.length C.c3]) (a0b hD 0 66 zM rfl rfl);go_simp;refine(c8f C W hM.c).mono ?_;exact yim
       |2,_,ho =>
        cases ho;have f8:=a0a (v:= .pointer (some ⟨B8,0,none⟩)) (hA.at_ (k:=8) zM);go_simp;exact hK (.pointer (some ⟨B8,4,none⟩)) W rfl (zR _ _) hM
       |3,_,ho =>
        cases ho;have f68:=a0a (v:= .pointer (some ⟨B8,4,none⟩)) (a0b hD 2 68 zM rfl rfl);have z0:W.cell? ⟨B8,4,none⟩=some (.slice B.x0 B.E.length B.c0):=hM.p.cell 4;have z1:W.cell? ⟨B8,5,none⟩=some (.slice B.x1 B.Fa.length B.c1):=hM.p.cell 5;have z2:W.cell? ⟨B8,6,none⟩=some (.slice B.x2 B.Y.length B.c2):=hM.p.cell 6;have z3:W.cell? ⟨B8,7,none⟩=some (.slice B.x3 B.P.length B.c3):=hM.p.cell 7;go_simp;exact hK (.agg #[.slice B.x0 B.E.length B.c0,.slice B.x1 B.Fa.length B.c1,.slice B.x2 B.Y.length B.c2,.slice B.x3 B.P.length B.c3]) W rfl (zR _ _) hM
       |4,_,ho =>
        cases ho;have f69:=a0a (v:= .agg #[.slice B.x0 B.E.length B.c0,.slice B.x1 B.Fa.length B.c1,.slice B.x2 B.Y.length B.c2,.slice B.x3 B.P.length B.c3]) (a0b hD 3 69 zM rfl rfl);go_simp;refine(c8f B W hM.n).mono ?_;exact yim
       |5,_,ho =>
        cases ho;have f67:=a0b hD 1 67 zM rfl rfl;have f70:=a0b hD 4 70 zM rfl rfl;obtain⟨V,ev,iv,nv⟩:=f67;obtain⟨U,eu,iu,nu⟩:=f70;have f67:=a0a ev;have f70:=a0a eu;go_simp;refine(c9f V U W iv iu (hM.l _ _ nv nu)).mono ?_;exact yan
       |i+6,hi,_=>exact absurd hi xM
      case tail =>
      intro bb W' hM hA aa;have h72:bb.eval (.tmp 71)= .bool true:=aa 5 xM _ _ rfl rfl;have az:=hA.frame (rT 66 (rF 6 (rT 61 ([])))) _ rfl zM;clear aa hA;obtain⟨f,hf⟩:=zDt bb;have Li:f 71= .bool true:=by rw[<-hf,<-h72];rfl
      rw[hf]at az;clear hf h72;subst az;simp only[rT,rF,a1j,Li,Nat.reduceAdd];clear Li;simp only[zU];have PD:=Hz.up hM.bel;clear hM Hy Hz;go_wp2_with fail;go_roundw
      case rel=>exact⟨k+1,xM,by go_num,PD⟩
      case measure=>simp[intOf];omega
  ·obtain rfl:k=3:=xM
   have aT:¬(3:Int)<3:=xM;clear hI;obtain⟨V0,hV⟩:∃X:World,X=wr:=⟨_,rfl⟩;subst hV;have kM:=hR.k;obtain⟨m0,m1,m2,m3⟩:=zN4 kM;go_upto_region 20 with fail;obtain⟨B14,kG⟩:=zE V0.heap.size;have CL:=Blk.new V0 #[.slice M.x0 M.E.length M.c0,.slice M.x1 M.Fa.length M.c1,.slice none 0 0,.slice none 0 0] 32;have mf:Below V0.heap.size V0 (V0.alloc (.cells #[.slice M.x0 M.E.length M.c0,.slice M.x1 M.Fa.length M.c1,.slice none 0 0,.slice none 0 0] 32)):=(zR _ _).alloc (yR _) _;obtain⟨wP,ao⟩:=zE (V0.alloc (.cells #[.slice M.x0 M.E.length M.c0,.slice M.x1 M.Fa.length M.c1,.slice none 0 0,.slice none 0 0] 32));rw[ao]at CL mf ⊢;have fH:=kM.below mf kM.lt;have Lj:TnP V0.heap.size B14 M V0 [] none 0 wP:=⟨kG▸CL,⟨rfl,.inl ⟨rfl,rfl⟩⟩,mf⟩;have AM:V0.heap.size<=B14:=xM;have uV:B14<wP.heap.size:=by rw[<-kG];exact CL.lt
   rw[kG];clear m0 m1 m2 m3 ao kG CL kM;obtain⟨pn,fQ⟩:=zE M.P.length;have bY:pn<=252:=fQ▸hR.m.p;obtain⟨m0,m1,m2,m3⟩:wP.cell? ⟨B4,0,none⟩=some (.slice M.x0 M.E.length M.c0)/\wP.cell? ⟨B4,1,none⟩=some (.slice M.x1 M.Fa.length M.c1)/\wP.cell? ⟨B4,2,none⟩=some (.slice M.x2 M.Y.length M.c2)/\wP.cell? ⟨B4,3,none⟩=some (.slice M.x3 pn M.c3):=⟨fH.cell 0,fH.cell 1,fH.cell 2,fQ▸fH.cell 3⟩;clear fH;go_upto_region 21 with fail;clear m0 m1 m2 m3;go_loopw [15] (λv wq=>∃(j:Nat) (z:Int) (l:List Pc) (va:Option Addr) (vc:Nat),j<=pn/\z=(pn:Int)-1-j/\v= .int .i64 z/\Hid (l=M.P.reverse.take j)/\TnP V0.heap.size B14 M V0 l va vc wq) (λv wq=>(intOf v+1).toNat)
   case atStart=>exact⟨0,_,[],none,0,Nat.zero_le _,xM,rfl,Lib.hid rfl,Lj⟩
   case round =>
    obtain⟨j,z,l,va,vc,hj,hz,rfl,hl,hT⟩:=hrel;have iW:=hR.up hT.bel;have fH:=iW.k;by_cases iM:j<pn
    ·obtain⟨i,hi⟩:∃i:Nat,z=(i:Int):=⟨z.toNat,xM⟩
     subst hi;have eB:i<pn:=xM;have HA:(0:Int)<=(i:Int):=xM;have hp:=(iW.m.i.m.p);rw[fQ]at hp;obtain⟨pb,off,cp,hv,-,bS,hc⟩:=hp.some_ xM;simp only[Value.slice.injEq]at hv;obtain⟨rU,-,ql⟩:=hv;have jK:i<M.P.length:=xM;have g1:AtC plE wr pb (off+i*7) (M.P[i]'jK):=λu hu=>hc i jK u hu
     have il:l++[M.P[i]'jK]=M.P.reverse.take (j+1):=by
      exact yfl
     have dT:l.length=j:=by rw[hl.out,List.length_take,List.length_reverse];omega
     obtain⟨x,hx⟩:=zE (M.P[i]'jK);rw[hx]at g1 il;clear hx hc hp;obtain⟨id,x,y,cls,nm,wt,dst⟩:=x;obtain⟨d0,d1,d2,d3,d4,d5,d6⟩:=b0e g1;have m3:wr.cell? ⟨B4,3,none⟩=some (.slice (some ⟨pb,off,none⟩) pn M.c3):=by
      rw[<-rU,<-fQ];exact fH.cell 3
     have t3:wr.cell? ⟨B14,3,none⟩=some (.slice va l.length vc):=hT.b.cell 3;have f3:=hT.b.frozen 3;have mH:wr.drew.ownsRow V0.heap.size 48 7 (.slice va l.length vc) l.length (l.flatMap plE.enc):=a0c hT.r (zR _ _).drew;have sw:Blk wr.drew B14 #[.slice M.x0 M.E.length M.c0,.slice M.x1 M.Fa.length M.c1,.slice none 0 0,.slice va l.length vc] 32:=hT.b.below (zR _ _).drew hT.b.lt;have fK:=a0y mH sw jM;have dX:=hT.bel.size;replace hz:=Lib.hid hz;replace il:=Lib.hid il;have jY:l.length<=252:=xM;clear fH rU ql g1 dT jK iW;go_upto_region 23 with fail;go_region_law (refine El.step_pushR a2n b9t qM _ _ qM qM mH ⟨id,x,y,cls,nm,wt,dst⟩ qM qM (by show V0.heap.size<=wr.heap.size;exact dX) xM ?_;intro fh eG dx ee bl fJ;have fj:=sw.kept bl fK;have f311:=fj.frozen 3;have GP:dx.cell? ⟨B14,3,none⟩=some (.slice va l.length vc):=fj.cell 3)
     all_goals
      try go_simp
      have jo:=hT.put AM _ ee fj fJ;go_wp2_with fail;go_roundw
      case rel=>exact⟨j+1,(i:Int)-1,_,_,_,xM,by have:=hz.out;omega,by go_num,Lib.hid il.out,jo⟩
      case measure=>simp[intOf] <;> omega
    ·obtain rfl:j=pn:=xM
     obtain rfl:z = -1:=xM;clear hz Lj mf uV;have pg:l=M.P.reverse:=by rw[hl.out];exact List.take_of_length_le (by rw[List.length_reverse,fQ];exact yR _)
     have dT:l.length=j:=by rw[pg,List.length_reverse,fQ]
     obtain⟨yn,wQ⟩:=zE M.Y.length;have Ck:yn<=23:=wQ▸hR.m.y;have fH:=(hR.up hT.bel).k;have m2:wr.cell? ⟨B4,2,none⟩=some (.slice M.x2 yn M.c2):=by
      rw[<-wQ];exact fH.cell 2
     clear fH;go_upto_region 25 with fail;have sT:TnW V0.heap.size B14 M V0 l va l.length vc [] none 0 wr:=⟨hT.b,hT.r,⟨rfl,.inl ⟨rfl,rfl⟩⟩,hT.bel⟩;clear hT m2 hl;rw[dT]at sT;replace dT:=Lib.hid dT;replace pg:=Lib.hid pg;obtain⟨pn,hj⟩:=zE j;subst hj;go_loopw [16] (λv wq=>∃(k:Nat) (z:Int) (L:List Wq) (ua:Option Addr) (uc:Nat),k<=yn/\z=(yn:Int)-1-k/\v= .int .i64 z/\Hid (L=M.Y.reverse.take k)/\TnW V0.heap.size B14 M V0 l va j vc L ua uc wq) (λv wq=>(intOf v+1).toNat)
     case atStart=>exact⟨0,_,[],none,0,Nat.zero_le _,xM,rfl,Lib.hid rfl,sT⟩
     case round =>
      obtain⟨k,z,L,ua,uc,cW,hz,rfl,hl,hT⟩:=hrel;have iW:=hR.up hT.bel;have fH:=iW.k;by_cases iM:k<yn
      ·obtain⟨i,hi⟩:∃i:Nat,z=(i:Int):=⟨z.toNat,xM⟩
       subst hi;have eB:i<yn:=xM;have HA:(0:Int)<=(i:Int):=xM;have hp:=(iW.m.i.m.w);rw[wQ]at hp;obtain⟨pb,off,cp,hv,-,bS,hc⟩:=hp.some_ xM;simp only[Value.slice.injEq]at hv;obtain⟨rU,-,ql⟩:=hv;have jK:i<M.Y.length:=xM;have g1:AtC wqE wr pb (off+i*8) (M.Y[i]'jK):=λu hu=>hc i jK u hu
       have il:L++[M.Y[i]'jK]=M.Y.reverse.take (k+1):=by
        exact yfl
       have HD:L.length=k:=by rw[hl.out,List.length_take,List.length_reverse];omega
       obtain⟨x,hx⟩:=zE (M.Y[i]'jK);rw[hx]at g1 il;clear hx hc hp;obtain⟨id,PE,ln,lc,H4,lvl,cls,nm,st,wt,dst⟩:=x;obtain⟨d0,d1,d2,d3,d4,d5,d6,d7⟩:=b4h g1;have m2:wr.cell? ⟨B4,2,none⟩=some (.slice (some ⟨pb,off,none⟩) yn M.c2):=by
        rw[<-rU,<-wQ];exact fH.cell 2
       have t2:wr.cell? ⟨B14,2,none⟩=some (.slice ua L.length uc):=hT.b.cell 2;have f2:=hT.b.frozen 2;have mH:wr.drew.ownsRow V0.heap.size 46 8 (.slice ua L.length uc) L.length (L.flatMap wqE.enc):=a0c hT.r (zR _ _).drew;have sw:Blk wr.drew B14 #[.slice M.x0 M.E.length M.c0,.slice M.x1 M.Fa.length M.c1,.slice ua L.length uc,.slice va j vc] 32:=hT.b.below (zR _ _).drew hT.b.lt;have fK:=a0y mH sw jM;have dX:=hT.bel.size;replace hz:=Lib.hid hz;replace il:=Lib.hid il;have jY:L.length<=252:=xM;clear fH rU ql g1 HD jK iW;go_upto_region 27 with fail;go_region_law (refine El.step_pushR a6d c6y qM _ _ qM qM mH ⟨id,PE,ln,lc,H4,lvl,cls,nm,st,wt,dst⟩ qM qM (by show V0.heap.size<=wr.heap.size;exact dX) xM ?_;intro fh eG dx ee bl fJ;have fj:=sw.kept bl fK;have f211:=fj.frozen 2;have PF:dx.cell? ⟨B14,2,none⟩=some (.slice ua L.length uc):=fj.cell 2)
       all_goals
        try go_simp
        have jo:=hT.put AM _ ee fj bl fJ;go_wp2_with fail;go_roundw
        case rel=>exact⟨k+1,xM,by have:=hz.out;omega,_,Lib.hid il.out,_,_,jo⟩
        case measure=>simp[intOf] <;> omega
      ·obtain rfl:k=yn:=xM
       obtain rfl:z = -1:=xM;clear hz sT;have Lk:L=M.Y.reverse:=by rw[hl.out];exact List.take_of_length_le (by rw[List.length_reverse,wQ];exact yR _)
       obtain⟨T,oT,Ll,kT⟩:=hT.turn iW.m pg.out Lk dT.out;have oM:=iW.m;have gI:=iW.b;clear hT Lk hl hR iW dT pg fQ wQ;obtain⟨m0,m1,m2,m3⟩:=zN4 fH;obtain⟨t0,t1,t2,t3⟩:=zN4 kT;have AK:=c8e M T wr oM oT;go_upto_region 29 with(first
        |(go_at_call 6;(with_reducible refine Calls.mono AK ?_);rintro e W6⟨bC,⟨rfl,fK⟩|⟨ex,ec,es,n,rfl,eZ,hL,hG,hO⟩⟩))
       all_goals
        clear m0 m1 m2 m3 t0 t1 t2 t3 AK;replace fH:=fH.below bC fH.lt;replace oM:=oM.up bC;replace gI:=gI.trans (bC.mono gI.size);obtain⟨m0,m1,m2,m3⟩:=zN4 fH;have bY:=c8h M W6 oM.i
       ·rw[Ll.no fK]at bY
        exact yfm
       ·obtain⟨rfl,tS⟩:=Ll.nil hO
        obtain rfl:n=0:=eZ.symm;rw[tS]at bY;exact yfm
end
end Go.Proofs.YteijfnkidefekaaGreat
