/-
  Parts.
-/
import Derived.Test.YteijfnkidefekaaGreatEaj
set_option linter.unusedVariables false
set_option linter.unusedSimpArgs false
set_option linter.unusedSectionVars false
set_option maxHeartbeats 60000000
set_option maxRecDepth 100000
namespace Go.Proofs.YteijfnkidefekaaGreat
open Tryz
section
open Go.RowKit Go.Shelf
theorem b7d {S:BS}{W:Wd}{c:Array Value}(h:∀u∈c.toList,∃x,u= .int .i64 x/\a0l x):TB S W 41 c:=λi u ct h1 h2=>by
 obtain⟨x,rfl,hx⟩:=h u (by rw[<-Array.getElem?_toList]at h1;exact List.mem_of_getElem? h1);rw[show a5e 41=2 from rfl]at h2;rcases Nat.mod_two_eq_zero_or_one i with e|e
 ·rw[e]at h2
  cases h2;exact CT.ok_int hx
 ·rw[e]at h2
  cases h2;exact CT.ok_int hx
theorem b7e {S:BS}{W:Wd}{id:Int}(hi:a0l id):TB S W 43 #[.int .i64 id,.string ⟨#[]⟩,.string ⟨#[]⟩,.int .i64 0,.int .i64 0]:=b4p rfl rfl λi u ct h1 h2=>by
 match i,h1,h2 with
 |0,h1,h2=>cases h1;cases h2;exact CT.ok_int hi
 |1,h1,h2=>cases h1;cases h2;exact CT.ok_str jM
 |2,h1,h2=>cases h1;cases h2;exact CT.ok_str jM
 |3,h1,h2=>cases h1;cases h2;exact CT.ok_int ⟨jM,jM⟩
 |4,h1,h2=>cases h1;cases h2;exact CT.ok_int ⟨jM,jM⟩
 |i+5,h1,_=>simp at h1
section
variable {W0 W:Wd}{S:BS}{L:a5g}{T:SlL}
theorem OW.lows (h:OW noB W0 S W L T)(b:Nat)(hb:S b):W0.heap.size<=b:=by
 rcases h.ev.new b hb with h1|h1
 ·exact h1.elim
 ·exact h1
end
end
section
abbrev plV (p:Pc):Value:= .agg #[.int .i64 p.id,.int .i64 p.x,.int .i64 p.y,.string p.cls,.string p.nm,.int .i64 p.wt,.int .i64 p.ds]
end
section
open Go Go.RowKit Go.Shelf
variable{S:BS}{b n:Nat}{v:Vu}{W w w':Wd}
theorem b5f (hB:Below w.heap.size w w'){o:Nat}(h:w.cell? ⟨b,o,none⟩=some v):w'.cell? ⟨b,o,none⟩=some v:=by
 have ab:=World.block_lt_of_cell? _ _ h;exact(Below.cell hB (p:=⟨b,o,none⟩) ab).trans h
theorem Own.slice {m c:Nat}{a:Option Addr}(h:Own m (.slice a n c))(n':Nat):Own m (.slice a n' c):=λa' k' c' e=>by
 cases e;exact h a' n c rfl
theorem OY.append_e {S0:BS}{W0:Wd}{L:a5g}{T:SlL}(h0:OY S0 W0 S W L T){o:Oper}{a:Act}{K:Act->World->Prop}{Q:Exit->Act->World->Prop}(sO xO:Operand)(t:Td)(ho:o.op= .call { callee:= .builtin .append,args:= #[sO,xO],argTypes:= #[t,t] })
 {e:Td} {s:Nat} (ht:prog.underlying t=some (.slice e)) (he:ET e s) {sv xv:Vu} {n m:Nat} (bj:a.eval sO=sv) (hv:SL S W e sv n) (aA:Own W0.heap.size sv) (aO:a.eval xO=xv) (hx:SL S W e xv m) (hl:n+m<=1000000)
 (h:∀v' S' w',OY S0 W0 S' w' L ((e,v',n+m)::T)->Own W0.heap.size v'->Ev noB S W S' w'->K (a.put o.dst v') w'):Oper.wp prog o a W K Q:=by
 obtain⟨v',S',w',hr,h2,h3,h4,h5⟩:=a6j (X:=noB) h0.tw (ty:=o.type) ht he hv hx hl h0.size aA;exact yfc
def FO7 (n0 jB n k p eb eo gz:Nat)(cx:Int)(i:Nat)(v:Vu)(g:BS)(w:Wd):Prop :=
 match i with
 |0=>v= .slice (some ⟨eb,eo,none⟩) k gz
 |1=>v= .int .i64 (n:Nat)
 |2=>∃x,v= .int .i64 x/\a0l x
 |3=>v= .agg #[.int .i64 cx,.int .i64 90]
 |4=>v= .pointer (some ⟨jB,0,none⟩)
 |5=>v= .int .i64 cx
 |6=>∃x,v= .int .i64 x/\a0l x
 |7=>∃x,v= .agg #[.int .i64 x,.int .i64 90]/\a0l x
 |8=>v= .pointer (some ⟨jB,0,none⟩)
 |9=>v= .int .i64 cx
 |10=>v= .agg #[.int .i64 cx,.int .i64 95]
 |11=>v= .agg #[.int .i64 cx,.int .i64 90]
 |12=>SL g w 41 v 4
 |13=>∃Z,v= .slice (some ⟨Z,0,none⟩) 3 3/\Blk w Z #[.int .i64 0,.int .i64 22,.int .i64 28] 3/\¬g Z
 |14=>v= .int .i64 (n:Nat)
 |15=>v= .int .i64 (p:Nat)
 |16=>∃Z,v= .pointer (some ⟨Z,p,none⟩)/\Blk w Z #[.int .i64 0,.int .i64 22,.int .i64 28] 3/\¬g Z
 |17=>∃x,v= .int .i64 x/\a0l x
 |18=>∃a c sv,v= .agg #[.int .i64 a,sv,.int .i64 21,.int .i64 c]/\a0l a/\a0l c/\SL g w 41 sv 4
 |19=>SL g w 71 v 1
 |20=>SL g w 71 v (k+1)/\Own n0 v
 |_=>False
theorem FO7.kept {n0 jB k p eb eo gz:Nat}{cx:Int}{i:Nat}{g g':BS}(h:FO7 n0 jB n k p eb eo gz cx i v g w)(hg:Ev noB g w g' w'):FO7 n0 jB n k p eb eo gz cx i v g' w':=by
 unfold FO7 at *;split at h
 all_goals first|exact h|(exact h)|(exact hg.sl h)|(obtain⟨Z,h1,h2,h3⟩:=h;exact⟨Z,h1,hg.blk h2 h3 (λh=>h),hg.not h2.lt h3⟩)|(obtain⟨a,c,sv,h1,h2,h3,h4⟩:=h;exact⟨a,c,sv,h1,h2,h3,hg.sl h4⟩)|(exact⟨hg.sl h.1,h.2⟩)
theorem SL.blk_ {e:Td}{off cap:Nat}(h:SL S W e (.slice (some ⟨b,off,none⟩) n cap) n):∃c,Blk W b c e:=by
 obtain⟨a',bk,h0,h1,⟨rfl,rfl⟩|⟨b',o,c,rfl,hb,hc,hl⟩⟩:=h
 ·simp at h0
 ·simp only[Value.slice.injEq,Option.some.injEq,Addr.mk.injEq,and_true,true_and]at h0
  obtain⟨⟨rfl,-⟩,-⟩:=h0;exact⟨c,hc⟩
structure O7 (w:Wd)(S:BS)(W:Wd)(e1 f1:Vu)(ne nf:Nat)(L:a5g):Prop where
 b:OY noB w S W L [(71,e1,ne),(43,f1,nf)]
 oe:Own w.heap.size e1
 of:Own w.heap.size f1
def a1m (kk:Nat):Prop:=∀(U:BS) (w:Wd) (hT:TW U w) (ev fv:Vu) (ne nf:Nat) (fF:SL U w 71 ev ne) (fG:SL U w 43 fv nf) (an:ne<=1000) (bZ:nf<=1000) (q0 q1 q2:Int) (cN:a0l q0) (cH:a0l q1) (cI:a0l q2),q0 % 13=(kk:Int) ->
    Calls prog 91 #[ev,fv,.agg #[.int .i64 q0,.int .i64 q1,.int .i64 q2]] w λe w'=>∃S' iH iI ne' nf',e= .returned (.tuple #[iH,iI])/\SL S' w' 71 iH ne'/\SL S' w' 43 iI nf'/\ne'<=ne+1/\nf'<=nf+1/\Ev noB noB w S' w'
theorem a1t {P:Prop}(h:P:=by
 unfold a1m;intro U w hT ev fv ne nf fF fG an bZ q0 q1 q2 cN cH cI jh;obtain⟨ea,ec,rfl,sX⟩:=fF.form;obtain⟨fa,fc,rfl,IH⟩:=fG.form;have h0:=(OY.init (TW.none w)).box #[.int .i64 q0,.int .i64 q1,.int .i64 q2] 119;go_enter func91,ntmps91;go_upto_region 2 with fail;refine a0n (λW1 ao=> ?_);obtain⟨BQ,tP⟩:=zE w.heap.size;rw[<-ao,tP]at h0;rw[tP];clear ao tP;go_wp2_with fail;go_loopw [8,9] (λe1 kk wr=>∃(k:Nat) (S:BS),k<=ne/\kk= .int .i64 (k:Nat)/\OY noB w S wr [(BQ,#[.int .i64 q0,.int .i64 q1,.int .i64 q2],119)] [(71,e1,k)]/\Own w.heap.size e1) (λ_ kk _=>ne-(intOf kk).toNat)
 case atStart=>exact⟨0,_,Nat.zero_le _,rfl,h0.add (SL.nil _ _ _),b0o _⟩
 case round =>
  clear h0;obtain⟨k,S,hk,rfl,hP,aA⟩:=hrel;have vX:=hP.old hT;have Bk:=hP.oldS hT fF;by_cases ab:k<ne
  ·as_aux_lemma =>
    have aj:(k:Int)<(ne:Int):=xM;obtain⟨eb,eo,Ms,heq,D7,-⟩:=Bk.some_ xM
    cases heq;obtain⟨id,ll,rr,lv,m,c0,c1,c2,c3,f0,f2,f3,aC,hm⟩:=SL.edge vX Bk ab;obtain⟨la,lc,rfl,dZ⟩:=aC.form;have DA:IntKind.i64.wrap ((k:Int)+1)=((k+1:Nat):Int):=by rw[a0p xM xM];omega
    obtain⟨bH,gz,rfl,tp⟩:=hP.s0.form;go_upto_region 6 with fail;refine a0n (λWE gD=> ?_);have dN:=(hP.box #[.int .i64 id,.slice la m lc,.int .i64 ll,.int .i64 rr] 71);obtain⟨BE,jX⟩:=zE wr.heap.size;have nx:Below wr.heap.size wr WE:=by rw[gD];exact(zR _ _).alloc (yR _) _
    rw[<-gD,jX]at dN;rw[jX];have IM:=a7u vX nx (λb hb=>vX.lt hb);have jf:=a3e nx (λb hb=>vX.lt hb) aC;clear hP gD jX c0 c1 c2 c3 vX Bk aC nx;have k1:WE.cell? ⟨BE,1,none⟩=some (.slice la m lc):=dN.b0.cell 1;refine a0n (λWF xY=> ?_);subst xY;have iL:=dN.empty 41;have xZ:=iL.old hT;have nS:=a3e ((zR _ WF).alloc (yR _) (.cells #[] 41)) (λb hb=>IM.lt hb) jf;have ji:Own w.heap.size (.slice (some ⟨WF.heap.size,0,none⟩) 0 0):=b6v dN.size _;go_upto_region 7 with(first
     |(at_builtin;refine iL.append_fl xZ qM _ _ 44 qM underlying44 a1l a9q qM iL.s0 ji qM nS xM ?_;intro v9 S9 WG dM _ _;obtain⟨a3,c3,rfl,lM⟩:=dM.s0.form;have q1:=dM.b0.cell 1;have y1:=dM.b0.frozen 1))
    refine a0n (λWM rG=> ?_);simp only[Nat.zero_add]at dM lM;have tQ:OY _ _ _ _ ((BE,#[.int .i64 id,.slice a3 m c3,.int .i64 ll,.int .i64 rr],_)::_) _:=dM.put rG rfl;clear dN iL dM rG q1 y1 xZ nS ji IM jf k1;obtain⟨q0,q1,q2,q3⟩:=ed4 tQ.b0;obtain⟨HS,tq⟩:=zE WM.heap.size;go_wp2_with (first
     |(at_builtin;refine tQ.append_n qM _ _ 27 qM underlying27 a1u qM tQ.s2 aA qM tq (a8e f0 f2 f3 tQ.s0 hm) rfl xM ?_;intro e9 S9 W9 cV gL))
    refine⟨⟨k+1,S9,ab,rfl,⟨⟨cV.tail.o.ev,cV.tail.o.bx,cV.tail.o.ne,λq hq=>cV.o.sl q (by rw[List.mem_singleton.1 hq];exact List.mem_cons_self ..)⟩,cV.bel⟩,gL⟩,?_⟩;exact ygy
  ·have aT:((k:Int)<(ne:Int))=False:=by simp;omega
   obtain rfl:k=ne:=xM;clear vX Bk;obtain⟨bH,gz,rfl,tp⟩:=hP.s0.form;have x8:=hP.empty 43;have xZ:=x8.old hT;have nS:=x8.oldS hT fG;have ji:Own w.heap.size (.slice (some ⟨wr.heap.size,0,none⟩) 0 0):=b6v hP.size _;go_upto_region 9 with(first
    |(at_builtin;refine x8.append_fl xZ qM _ _ 28 qM underlying28 a1f b2i qM x8.s0 ji qM nS xM ?_;intro v9 S9 W9 cV nT _;obtain⟨f10,vY,rfl,D8⟩:=cV.s0.form))
   simp only[Nat.zero_add]at cV D8 nT;have hO:O7 w S9 W9 (.slice bH k gz) (.slice f10 nf vY) k nf [(BQ,#[.int .i64 q0,.int .i64 q1,.int .i64 q2],119)]:=⟨⟨⟨cV.o.ev,cV.o.bx,cV.o.ne,λq hq=>cV.o.sl q (by
    rcases List.mem_cons.1 hq with rfl|hq
    ·exact List.mem_cons_of_mem _ (List.mem_cons_of_mem _ (List.mem_cons_self ..))
    ·rw[List.mem_singleton.1 hq];exact List.mem_cons_self ..)⟩,cV.bel⟩,aA,nT⟩
   clear cV x8 xZ nS ji hP aA nT;by_cases p9:k=0
   ·subst p9
    go_wp2_with fail;go_ret2;exact⟨_,_,_,_,_,rfl,hO.b.s0,hO.b.s1,xM,xM,hO.b.o.ev⟩
   have nV:((k:Int)==0)=false:=by simpa using p9
   have Bl:0<k:=xM;obtain⟨i0,i1,i2⟩:=(⟨hO.b.b0.cell 0,hO.b.b0.cell 1,hO.b.b0.cell 2⟩:W9.cell? ⟨BQ,0,none⟩=some (.int .i64 q0)/\W9.cell? ⟨BQ,1,none⟩=some (.int .i64 q1)/\W9.cell? ⟨BQ,2,none⟩=some (.int .i64 q2));obtain⟨n,hn,Mt⟩:∃n:Nat,q1 % 40=(n:Int)/\n<40:=⟨(q1 % 40).toNat,xM,xM⟩;obtain⟨j,hj,gq⟩:∃j:Nat,q2 % (k:Int)=(j:Int)/\j<k:=⟨(q2 % (k:Int)).toNat,by have:=Int.emod_nonneg q2 (show(k:Int)≠0 by omega);omega,by have:=Int.emod_nonneg q2 (show(k:Int)≠0 by omega);have:=Int.emod_lt_of_pos q2 (show(0:Int)<(k:Int) by omega);omega⟩;obtain⟨r,hr,ye⟩:∃r:Nat,q0 % 13=(r:Int)/\r<13:=⟨(q0 % 13).toNat,xM,xM⟩;have D9:=Lib.hid (Int.ofNat_inj.1 (hr.symm.trans jh));clear jh;have IN:(j:Int)<(k:Int):=xM;obtain⟨eb,eo,Ms,heq,D7,-⟩:=hO.b.s0.some_ Bl
   cases heq;have dy:=a3w q1 40 W9 cH jM jM;have b8:=a3w q2 (k:Int) W9 cI xM xM;have gC:=a3w q0 13 W9 cN jM jM;rw[hn]at dy;rw[hj]at b8;rw[hr]at gC;go_upto_block 2 with(first
    |(go_at_call 85;(with_reducible refine dy.mono ?_);rintro e W'⟨rfl,rfl⟩)
    |(go_at_call 85;(with_reducible refine b8.mono ?_);rintro e W'⟨rfl,rfl⟩)
    |(go_at_call 85;(with_reducible refine gC.mono ?_);rintro e W'⟨rfl,rfl⟩))
   clear dy b8 gC i0 i1 i2;go_cut [8,11] (λe f wx=>∃S ne' nf',O7 w S wx e f ne' nf' [(BQ,#[.int .i64 q0,.int .i64 q1,.int .i64 q2],119)]/\ne'<=k+1/\nf'<=nf+1)
   case rest =>
    obtain⟨S',ne',nf',eV,ck,dp⟩:=hcut;go_wp2_with fail;go_ret2;exact⟨_,_,_,_,_,rfl,eV.b.s0,eV.b.s1,ck,dp,eV.b.o.ev⟩
   case first =>
    have ai:=λi ct h u hu=>hO.b.store a1u hO.b.s0 hO.oe j i ct h u hu
    have rN:CT.int.ok S9 W9 (.int .i64 0):=CT.ok_int jM;obtain⟨id,ll,rr,lv,m,c0,c1,c2,c3,f0,f2,f3,aC,hm⟩:=SL.edge hO.b.tw hO.b.s0 gq;obtain⟨la,lc,rfl,dZ⟩:=aC.form;have z0:W9.frozen? ⟨eb,eo+j*4,none⟩=false:=(ai 0 .int rfl _ rN).2;have z2:=(ai 2 .int rfl _ rN).2;have z3:=(ai 3 .int rfl _ rN).2;obtain rfl:=D9.out;exact zCase):P:=h
theorem odd7_anyK0.zCase {P:Prop}(h:P:=by
 have bB:IntKind.i64.wrap ((n:Int)-1)=(n:Int)-1:=a0p xM xM;have hX:=(ai 0 .int rfl (.int .i64 ((n:Int)-1)) (CT.ok_int ⟨xM,xM⟩)).1;go_wp2_with fail;go_meet;exact⟨S9,k,nf,⟨hX,hO.oe,hO.of⟩,xM,xM⟩):P:=h
open odd7_anyK0 in
theorem b5g:a1m 0:=a1t
theorem odd7_anyK1.zCase {P:Prop}(h:P:=by
 have hX:=(ai 2 .int rfl (.int .i64 (n:Int)) (CT.ok_int ⟨xM,xM⟩)).1;go_wp2_with fail;go_meet;exact⟨S9,k,nf,⟨hX,hO.oe,hO.of⟩,xM,xM⟩):P:=h
open odd7_anyK1 in
theorem b5h:a1m 1:=a1t
theorem odd7_anyK2.zCase {P:Prop}(h:P:=by
 obtain⟨p,hp,Bm⟩:∃p:Nat,Int.tmod (n:Int) 4=(p:Int)/\p<4:=⟨n % 4,by rw[Int.tmod_eq_emod_of_nonneg xM];omega,xM⟩;have pZ:(p:Int)<4:=xM;have kT:=Blk.new W9 #[.int .i64 0,.int .i64 21,.int .i64 22,.int .i64 28] 3;obtain⟨v,cv,fv⟩:∃v,(W9.alloc (.cells #[.int .i64 0,.int .i64 21,.int .i64 22,.int .i64 28] 3)).cell? ⟨W9.heap.size,p,none⟩=some (.int .i64 v)/\a0l v:=by
  match p,Bm with
  |0,_=>exact⟨_,kT.cell 0,jM⟩
  |1,_=>exact⟨_,kT.cell 1,jM⟩
  |2,_=>exact⟨_,kT.cell 2,jM⟩
  |3,_=>exact⟨_,kT.cell 3,jM⟩
 have hY:=(ai 3 .int rfl (.int .i64 v) (CT.ok_int fv)).1;have hX:=hY.up ((zR _ _).alloc (yR _) (.cells #[.int .i64 0,.int .i64 21,.int .i64 22,.int .i64 28] 3));clear kT;go_wp2_with fail;go_meet;exact⟨S9,k,nf,⟨hX,hO.oe,hO.of⟩,xM,xM⟩):P:=h
open odd7_anyK2 in
theorem b5i:a1m 2:=a1t
end
end Go.Proofs.YteijfnkidefekaaGreat
