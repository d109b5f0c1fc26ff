/-
  Parts.
-/
import Derived.Test.YteijfnkidefekaaGreatEbj
import Derived.Shelf.Spec.SlicesGrow
set_option linter.unusedVariables false
set_option linter.unusedSimpArgs false
set_option linter.unusedSectionVars false
set_option maxHeartbeats 4000000
set_option maxRecDepth 100000
namespace Go.Proofs.YteijfnkidefekaaGreat
open Tryz
section
open Go Go.RowKit Go.Shelf Go.Lib
theorem nIn :nE.In prog 100:=El.in_of (z:= .int .i64 0) (s:=1) (bytes:=8) underlying100 zM rfl xM rfl
section
variable {P:Program}{α:Type}{E:El α}{st:Td}
theorem El.append_all (hE:E.Ok)(hI:E.In P st)(W:Wd)(base:Nat)(v xv:Vu)(l l2:List α)(ty:Td)(hv:W.ownsRow base E.t E.s v l.length (l.flatMap E.enc)){n0:Nat}(hx:Lst E n0 W xv l2)(hf:Frm xv l2.length)(hl:l.length+l2.length<=100000)(hb:base<=W.heap.size) :
 ∃v' W',(Builtin.append_ #[st,st] ty #[v,xv]).run P W= .ok v' W'/\W'.ownsRow base E.t E.s v' (l++l2).length ((l++l2).flatMap E.enc)/\W.grownBy W' v.ownBlock/\Below base W W'/\(v'.ownBlock=v.ownBlock\/v'.ownBlock=some W.heap.size):=by
 exact yak
theorem El.all (hE:E.Ok)(hI:E.In P st){ops:Array Oper}{rest:List Oper}{o:Oper}{a:Act}{w:Wd}{Q:Exit->Act->World->Prop}(bP:o.guard=none)(s x:Operand)
 (ho:o.op= .call { callee:= .builtin .append,args:= #[s,x],argTypes:= #[st,st] }) (base:Nat) {v:Vu} (hs:a.eval s=v) (l:List α) (hv:w.ownsRow base E.t E.s v l.length (l.flatMap E.enc)) {xv:Vu} (l2:List α) (aO:a.eval x=xv) {n0:Nat} (hx:Lst E n0 w xv l2) (hf:Frm xv l2.length) (hl:l.length+l2.length<=100000) (hb:base<=w.heap.size)
 (h:∀v' w',w'.ownsRow base E.t E.s v' (l++l2).length ((l++l2).flatMap E.enc)->w.grownBy w' v.ownBlock->Below base w w'->wpList P ops Q rest (a.put o.dst v') w') :
 wpList P ops Q (o::rest) a w:=by
 obtain⟨v',w',hr,h2,h3,h4,h5⟩:=El.append_all hE hI w base v xv l l2 o.type hv hx hf hl hb;refine wpList_plain bP λ_ hK=> ?_
 unfold Oper.wp execOp;simp only[ho,resolve,invoke,builtin,Sem.run_bind,Sem.run_pure,Result.andThen_ok,List.map_toArray,List.map_cons,List.map_nil,hs,aO,hr];exact hK _ _ (h v' w' h2 h3 h4)
end
def growIren9 :Go.Shelf.Ren:=⟨λ|4=>126|n=>n,λ|22=>100|25=>3|3=>3|0=>0|4=>4|9=>9|20=>20|n=>n,λ|n=>n⟩
theorem c5d :Go.Proofs.Lays8.n4 prog growIren9:={
 mixed:=by kernel_rfl
 f4:=⟨Tryz.f126.name,jM,func126.trans (congrArg some zM)⟩
 t0:=underlying0
 a0:=isAgg0
 z0:=sizeOf0
 v0:=zeroValue0
 t3:=underlying3
 a3:=isAgg3
 z3:=sizeOf3
 v3:=zeroValue3
 t4:=underlying4
 a4:=isAgg4
 z4:=sizeOf4
 v4:=zeroValue4
 t9:=underlying9
 a9:=isAgg9
 z9:=sizeOf9
 v9:=zeroValue9
 t20:=underlying20
 a20:=isAgg20
 z20:=sizeOf20
 v20:=zeroValue20
 t22:=underlying100
 a22:=isAgg100
 z22:=sizeOf100
 v22:=zeroValue100 }
theorem c4q (n:Nat)(hn:n<=100000)(w:Wd):Calls prog 126 #[.slice none 0 0,.int .i64 n] w λe w'=>∃v,e= .returned v/\w'.ownsRow w.heap.size 3 1 v 0 []/\Below w.heap.size w w':=by
 by_cases h0:n=0
 ·subst h0
  refine(Any8.slices_Grow_room c5d none 0 0 0 w (yR _) xM xM xM).mono ?_;rintro e w'⟨rfl,rfl⟩;exact⟨_,rfl,World.ownsRow_nil _ _ _ _,zR _ _⟩
 ·obtain⟨i0,bV,dm,aH,bn⟩:=info_parts (P:=prog) (e:=3) (z:= .int .i64 0) (size:=1) (bytes:=8) zM
  refine(Any8.slices_Grow_grow c5d i0 (.int .i64 0) bV dm xM none 0 0 n [] w (yR _) xM (by rw[bn];omega) xM vM (λ_=>rfl) (λa h=>by cases h)).mono ?_;rintro e w'⟨rfl,rfl⟩;have aT:=grownCap_ge w (0+n) 0 (growIren9.t 25);have hle:=grownCap_le_maxLen w (0+n) 0 (growIren9.t 25) gM;obtain⟨G,hG⟩:=zE (grownCap w (0+n) 0 (growIren9.t 25));rw[hG]at aT hle ⊢;refine⟨_,rfl,?_,?_⟩
  ·refine World.ownsRow_made w.drew _ _ vM hle ?_
   rw[Array.size_append,Array.size_append,size_zeroCells,size_zeroCells];simp[Value.cells];omega
  ·exact(zR _ _).drew.alloc vM _
def b4d (ls:Nat->List Int)(k:Nat):List Int:=(List.range k).flatMap ls
theorem a3c (ls:Nat->List Int)(k:Nat):b4d ls (k+1)=b4d ls k++ls k:=by
 unfold b4d;rw[List.range_succ,List.flatMap_append];simp
theorem b7o (ls:Nat->List Int)(N:Nat)(h:∀k,(ls k).length<=N)(k:Nat):(b4d ls k).length<=k*N:=by
 induction k with
 |zero=>simp[b4d]
 |succ k ih =>
  rw[a3c,List.length_append,Nat.add_mul];have:=h k;omega
theorem b9e (H:Nat)(av:Nat->Option Addr)(cs:Nat->Nat)(ls:Nat->List Int)(w:Wd)(hc:∀k,k<4->w.cell? ⟨H,k,none⟩=some (.slice (av k) (ls k).length (cs k)))(hH:H<w.heap.size)
 (hl:∀k,(ls k).length<=1000) (hL:∀k,k<4->Lst nE w.heap.size w (.slice (av k) (ls k).length (cs k)) (ls k)/\Frm (.slice (av k) (ls k).length (cs k)) (ls k).length) :
 Calls prog 102 #[.slice (some ⟨H,0,none⟩) 4 4] w λe w'=>∃u,e= .returned u/\w'.ownsRow w.heap.size 3 1 u (b4d ls 4).length ((b4d ls 4).flatMap nE.enc)/\Below w.heap.size w w':=by
 go_enter func102,ntmps102;go_wp2_with fail;go_loopw [3,11] (λss kk wr=>∃k:Nat,k<=4/\kk= .int .i64 (k:Nat)/\ss= .int .i64 ((b4d ls k).length:Nat)/\Hid (Below w.heap.size w wr)) (λss kk _=>4-(intOf kk).toNat)
 case atStart=>exact⟨0,xM,rfl,rfl,Lib.hid (zR _ _)⟩
 case round =>
  obtain⟨k,hk,rfl,rfl,bW⟩:=hrel;have hs:=b7o ls 1000 hl k;by_cases ab:k<4
  ·have aj:(k:Int)<4:=xM
   have h1:wr.cell? ⟨H,k,none⟩=some (.slice (av k) (ls k).length (cs k)):=(bW.out.cell (p:=⟨H,k,none⟩) hH).trans (hc k ab);have mJ:=hl k;have hS:((b4d ls (k+1)).length:Int)=(b4d ls k).length+(ls k).length:=by rw[a3c,List.length_append];omega
   have ck:¬((b4d ls k).length:Int)+(ls k).length<0:=xM;obtain⟨S,gv⟩:=zE ((b4d ls k).length);obtain⟨n,hn⟩:=zE ((ls k).length);rw[gv]at hs hS ck ⊢;rw[hn]at h1 mJ hS ck;go_wp2_with fail;go_roundw
   case rel=>exact⟨k+1,xM,by go_num,by rw[hS],bW⟩
   case measure=>simp[intOf];omega
  ·obtain rfl:k=4:=xM
   have aT:¬(4:Int)<4:=xM;obtain⟨S,gv⟩:=zE ((b4d ls 4).length);have hG:=λX=>c4q S xM X
   rw[gv];go_wp2_with (first
    |(go_at_call 126;(with_reducible refine(hG _).mono ?_);rintro e W2⟨v,rfl,aL,aq⟩))
   have Ao:=bW.out.trans (aq.mono bW.out.size);have bn:=Ao.size;have jV:=a3n aL bW.out.size;clear aL hG aq;go_loopw [6,27] (λvv kk wq=>∃k:Nat,k<=4/\kk= .int .i64 (k:Nat)/\wq.ownsRow w.heap.size 3 1 vv (b4d ls k).length ((b4d ls k).flatMap nE.enc)/\Hid (Below w.heap.size w wq)) (λvv kk _=>4-(intOf kk).toNat)
   case atStart=>exact⟨0,xM,rfl,jV,Lib.hid Ao⟩
   case round =>
    obtain⟨k,hk,rfl,ag,hb⟩:=hrel;have hs:=b7o ls 1000 hl k;by_cases ab:k<4
    ·have aj:(k:Int)<4:=xM
     have h1:wr.cell? ⟨H,k,none⟩=some (.slice (av k) (ls k).length (cs k)):=(hb.out.cell (p:=⟨H,k,none⟩) hH).trans (hc k ab);have mJ:=hl k;have OU:=(hL k ab).1.below hb.out;have OV:=(hL k ab).2;have hz:=hb.out.size;have lq:=a3c ls k;go_wp2_with (first
      |(at_builtin;refine El.all nOk nIn qM _ _ qM _ qM _ ag _ qM OU OV xM hz ?_;intro v9 w9 bG aU eS))
     go_roundw
     case rel=>exact⟨k+1,xM,by go_num,by rw[lq];exact bG,Lib.hid (hb.out.trans eS)⟩
     case measure=>simp[intOf];omega
    ·obtain rfl:k=4:=xM
     have aT:¬(4:Int)<4:=xM;go_wp2_with fail;go_ret;rw[gv]at ag;exact⟨_,rfl,ag,hb.out⟩
theorem c2g (v:Vu)(l:List Eg)(w:Wd)(h:Lst egE w.heap.size w v l)(hl:l.length<=1000) :
 Calls prog 103 #[.agg #[v,.func (.func 54) #[] #[]]] w λe w'=>∃u,e= .returned u/\w'.ownsRow w.heap.size 3 1 u (l.map Eg.id).length ((l.map Eg.id).flatMap nE.enc)/\Below w.heap.size w w':=by
 obtain⟨va,vc,rfl,-⟩:=h.form;have kX:=Blk.new w #[.slice va l.length vc,.func (.func 54) #[] #[]] 81;have hb:Below w.heap.size w (w.alloc (.cells #[.slice va l.length vc,.func (.func 54) #[] #[]] 81)):=(zR _ _).alloc (yR _) _;go_enter func103,ntmps103;go_upto_region 1 with fail;obtain⟨W1,hW⟩:=zE (w.alloc (.cells #[.slice va l.length vc,.func (.func 54) #[] #[]] 81));have hL:=h.below hb;rw[hW]at kX hb hL ⊢;clear hW h;obtain⟨X,hX⟩:=zE w.heap.size;have c0:W1.cell? ⟨X,0,none⟩=some (.slice va l.length vc):=hX▸kX.cell 0;rw[hX]at kX hL ⊢;have aH:X<=W1.heap.size:=hX▸hb.size;go_wp2_with fail;clear c0;go_loopw [3,9] (λvv kk wr=>∃k:Nat,k<=l.length/\kk= .int .i64 (k:Nat)/\wr.ownsRow X 3 1 vv ((l.take k).map Eg.id).length (((l.take k).map Eg.id).flatMap nE.enc)/\Hid (Below X W1 wr)/\Blk wr X #[.slice va l.length vc,.func (.func 54) #[] #[]] 81) (λvv kk _=>l.length-(intOf kk).toNat)
 case atStart=>exact yeq
 case round =>
  obtain⟨k,eK,rfl,ag,bW,lB⟩:=hrel;by_cases ab:k<l.length
  ·have aj:(k:Int)<(l.length:Int):=xM
   have oJ:=hL.below bW.out;obtain⟨b,off,cap,hv,-,bS,hc⟩:=oJ.some_ xM;simp only[Value.slice.injEq,true_and]at hv;obtain⟨rfl,rfl⟩:=hv;obtain⟨p,hp⟩:=zE (l[k]);have fS:=hc k ab;rw[hp]at fS;have rh:(l.take (k+1)).map Eg.id=(l.take k).map Eg.id++[p.id]:=by rw[<-hp,<-List.take_append_getElem ab,List.map_append];rfl
   have uL:((l.take k).map Eg.id).length<=1000:=by rw[List.length_map,List.length_take];omega
   have hid:=λX=>b0r p X
   obtain⟨id,la,ln,lc,line,lf,rt⟩:=p;obtain⟨d0,d1,d2,d3⟩:=c8o fS;obtain⟨K,hK⟩:=zE ((l.take k).map Eg.id);rw[hK]at ag rh uL;obtain⟨ua,uc,rfl,-⟩:=(a0g nOk ag xM).form;have dX:=bW.out.size;clear fS hc oJ hK hp;go_upto_region 5 with fail;have kP:=Blk.new wr #[.int .i64 id,.slice la ln lc,.int .i64 lf,.int .i64 rt] 71;have gb:Below wr.heap.size wr (wr.alloc (.cells #[.int .i64 id,.slice la ln lc,.int .i64 lf,.int .i64 rt] 71)):=(zR _ _).alloc (yR _) _;obtain⟨W9,iB⟩:=zE (wr.alloc (.cells #[.int .i64 id,.slice la ln lc,.int .i64 lf,.int .i64 rt] 71));rw[iB]at kP gb ⊢;obtain⟨BP,gS⟩:=zE wr.heap.size;have wE:=gb.size;have gd:=a0c ag gb;have kt:=lB.below gb lB.lt;have pV:Below X W1 W9:=bW.out.trans (gb.mono xM);rw[gS]at kP ⊢;obtain⟨r0,r1,r2,r3⟩:=zN4 kP;have q1:W9.cell? ⟨X,1,none⟩=some (.func (.func 54) #[] #[]):=kt.cell 1;clear iB d0 d1 d2 d3 gS kP ag;simp only at hid;go_wp2_with (first
    |(go_at_call 54;(with_reducible refine(hid _).mono ?_);rintro e W8⟨rfl,aJ⟩
      have dh:=a0c gd aJ;have oZ:=kt.below aJ kt.lt;have fK:=a0y dh oZ jM;have uC:=aJ.size)
    |(at_builtin;refine El.push nOk nIn qM _ _ qM qM dh id qM rfl xM xM ?_;intro v11 dx ee gh bl fJ
      obtain⟨fh,eG,rfl⟩:=gh))
   exact ycf
  ·exact ybm
theorem c2h (v:Vu)(l:List Fc)(w:Wd)(h:Lst fcE w.heap.size w v l)(hl:l.length<=1000) :
 Calls prog 104 #[.agg #[v,.func (.func 59) #[] #[]]] w λe w'=>∃u,e= .returned u/\w'.ownsRow w.heap.size 3 1 u (l.map Fc.id).length ((l.map Fc.id).flatMap nE.enc)/\Below w.heap.size w w':=by
 obtain⟨va,vc,rfl,-⟩:=h.form;have kX:=Blk.new w #[.slice va l.length vc,.func (.func 59) #[] #[]] 86;have hb:Below w.heap.size w (w.alloc (.cells #[.slice va l.length vc,.func (.func 59) #[] #[]] 86)):=(zR _ _).alloc (yR _) _;go_enter func104,ntmps104;go_upto_region 1 with fail;obtain⟨W1,hW⟩:=zE (w.alloc (.cells #[.slice va l.length vc,.func (.func 59) #[] #[]] 86));have hL:=h.below hb;rw[hW]at kX hb hL ⊢;clear hW h;obtain⟨X,hX⟩:=zE w.heap.size;have c0:W1.cell? ⟨X,0,none⟩=some (.slice va l.length vc):=hX▸kX.cell 0;rw[hX]at kX hL ⊢;have aH:X<=W1.heap.size:=hX▸hb.size;go_wp2_with fail;clear c0;go_loopw [3,9] (λvv kk wr=>∃k:Nat,k<=l.length/\kk= .int .i64 (k:Nat)/\wr.ownsRow X 3 1 vv ((l.take k).map Fc.id).length (((l.take k).map Fc.id).flatMap nE.enc)/\Hid (Below X W1 wr)/\Blk wr X #[.slice va l.length vc,.func (.func 59) #[] #[]] 86) (λvv kk _=>l.length-(intOf kk).toNat)
 case atStart=>exact yeq
 case round =>
  obtain⟨k,eK,rfl,ag,bW,lB⟩:=hrel;by_cases ab:k<l.length
  ·have aj:(k:Int)<(l.length:Int):=xM
   have oJ:=hL.below bW.out;obtain⟨b,off,cap,hv,-,bS,hc⟩:=oJ.some_ xM;simp only[Value.slice.injEq,true_and]at hv;obtain⟨rfl,rfl⟩:=hv;obtain⟨p,hp⟩:=zE (l[k]);have fS:=hc k ab;rw[hp]at fS;have rh:(l.take (k+1)).map Fc.id=(l.take k).map Fc.id++[p.id]:=by rw[<-hp,<-List.take_append_getElem ab,List.map_append];rfl
   have uL:((l.take k).map Fc.id).length<=1000:=by rw[List.length_map,List.length_take];omega
   have hid:=λX=>b0t p X
   obtain⟨id,cls,nm,wt,ds⟩:=p;obtain⟨d0,d1,d2,d3,d4⟩:=c8p fS;obtain⟨K,hK⟩:=zE ((l.take k).map Fc.id);rw[hK]at ag rh uL;obtain⟨ua,uc,rfl,-⟩:=(a0g nOk ag xM).form;have dX:=bW.out.size;clear fS hc oJ hK hp;go_upto_region 5 with fail;have kP:=Blk.new wr #[.int .i64 id,.string cls,.string nm,.int .i64 wt,.int .i64 ds] 43;have gb:Below wr.heap.size wr (wr.alloc (.cells #[.int .i64 id,.string cls,.string nm,.int .i64 wt,.int .i64 ds] 43)):=(zR _ _).alloc (yR _) _;obtain⟨W9,iB⟩:=zE (wr.alloc (.cells #[.int .i64 id,.string cls,.string nm,.int .i64 wt,.int .i64 ds] 43));rw[iB]at kP gb ⊢;obtain⟨BP,gS⟩:=zE wr.heap.size;have wE:=gb.size;have gd:=a0c ag gb;have kt:=lB.below gb lB.lt;have pV:Below X W1 W9:=bW.out.trans (gb.mono xM);rw[gS]at kP ⊢;obtain⟨r0,r1,r2,r3,r4⟩:=zN5 kP;have q1:W9.cell? ⟨X,1,none⟩=some (.func (.func 59) #[] #[]):=kt.cell 1;clear iB d0 d1 d2 d3 d4 gS kP ag;simp only at hid;go_wp2_with (first
    |(go_at_call 59;(with_reducible refine(hid _).mono ?_);rintro e W8⟨rfl,aJ⟩
      have dh:=a0c gd aJ;have oZ:=kt.below aJ kt.lt;have fK:=a0y dh oZ jM;have uC:=aJ.size)
    |(at_builtin;refine El.push nOk nIn qM _ _ qM qM dh id qM rfl xM xM ?_;intro v11 dx ee gh bl fJ
      obtain⟨fh,eG,rfl⟩:=gh))
   exact ycf
  ·exact ybm
theorem c2i (v:Vu)(l:List Wq)(w:Wd)(h:Lst wqE w.heap.size w v l)(hl:l.length<=1000) :
 Calls prog 105 #[.agg #[v,.func (.func 63) #[] #[]]] w λe w'=>∃u,e= .returned u/\w'.ownsRow w.heap.size 3 1 u (l.map Wq.id).length ((l.map Wq.id).flatMap nE.enc)/\Below w.heap.size w w':=by
 obtain⟨va,vc,rfl,-⟩:=h.form;have kX:=Blk.new w #[.slice va l.length vc,.func (.func 63) #[] #[]] 91;have hb:Below w.heap.size w (w.alloc (.cells #[.slice va l.length vc,.func (.func 63) #[] #[]] 91)):=(zR _ _).alloc (yR _) _;go_enter func105,ntmps105;go_upto_region 1 with fail;obtain⟨W1,hW⟩:=zE (w.alloc (.cells #[.slice va l.length vc,.func (.func 63) #[] #[]] 91));have hL:=h.below hb;rw[hW]at kX hb hL ⊢;clear hW h;obtain⟨X,hX⟩:=zE w.heap.size;have c0:W1.cell? ⟨X,0,none⟩=some (.slice va l.length vc):=hX▸kX.cell 0;rw[hX]at kX hL ⊢;have aH:X<=W1.heap.size:=hX▸hb.size;go_wp2_with fail;clear c0;go_loopw [3,9] (λvv kk wr=>∃k:Nat,k<=l.length/\kk= .int .i64 (k:Nat)/\wr.ownsRow X 3 1 vv ((l.take k).map Wq.id).length (((l.take k).map Wq.id).flatMap nE.enc)/\Hid (Below X W1 wr)/\Blk wr X #[.slice va l.length vc,.func (.func 63) #[] #[]] 91) (λvv kk _=>l.length-(intOf kk).toNat)
 case atStart=>exact yeq
 case round =>
  obtain⟨k,eK,rfl,ag,bW,lB⟩:=hrel;by_cases ab:k<l.length
  ·have aj:(k:Int)<(l.length:Int):=xM
   have oJ:=hL.below bW.out;obtain⟨b,off,cap,hv,-,bS,hc⟩:=oJ.some_ xM;simp only[Value.slice.injEq,true_and]at hv;obtain⟨rfl,rfl⟩:=hv;obtain⟨p,hp⟩:=zE (l[k]);have fS:=hc k ab;rw[hp]at fS;have rh:(l.take (k+1)).map Wq.id=(l.take k).map Wq.id++[p.id]:=by rw[<-hp,<-List.take_append_getElem ab,List.map_append];rfl
   have uL:((l.take k).map Wq.id).length<=1000:=by rw[List.length_map,List.length_take];omega
   have hid:=λX=>b0v p X
   obtain⟨id,la,ln,lc,line,lvl,cls,nm,st,wt,ds⟩:=p;obtain⟨d0,d1,d2,d3,d4,d5,d6,d7⟩:=b4h fS;obtain⟨K,hK⟩:=zE ((l.take k).map Wq.id);rw[hK]at ag rh uL;obtain⟨ua,uc,rfl,-⟩:=(a0g nOk ag xM).form;have dX:=bW.out.size;clear fS hc oJ hK hp;go_upto_region 5 with fail;have kP:=Blk.new wr #[.int .i64 id,.slice la ln lc,.int .i64 lvl,.string cls,.string nm,.bool st,.int .i64 wt,.int .i64 ds] 46;have gb:Below wr.heap.size wr (wr.alloc (.cells #[.int .i64 id,.slice la ln lc,.int .i64 lvl,.string cls,.string nm,.bool st,.int .i64 wt,.int .i64 ds] 46)):=(zR _ _).alloc (yR _) _;obtain⟨W9,iB⟩:=zE (wr.alloc (.cells #[.int .i64 id,.slice la ln lc,.int .i64 lvl,.string cls,.string nm,.bool st,.int .i64 wt,.int .i64 ds] 46));rw[iB]at kP gb ⊢;obtain⟨BP,gS⟩:=zE wr.heap.size;have wE:=gb.size;have gd:=a0c ag gb;have kt:=lB.below gb lB.lt;have pV:Below X W1 W9:=bW.out.trans (gb.mono xM);rw[gS]at kP ⊢;obtain⟨r0,r1,r2,r3,r4,r5,r6,r7⟩:=zN8 kP;have q1:W9.cell? ⟨X,1,none⟩=some (.func (.func 63) #[] #[]):=kt.cell 1;clear iB d0 d1 d2 d3 d4 d5 d6 d7 gS kP ag;simp only at hid;go_wp2_with (first
    |(go_at_call 63;(with_reducible refine(hid _).mono ?_);rintro e W8⟨rfl,aJ⟩
      have dh:=a0c gd aJ;have oZ:=kt.below aJ kt.lt;have fK:=a0y dh oZ jM;have uC:=aJ.size)
    |(at_builtin;refine El.push nOk nIn qM _ _ qM qM dh id qM rfl xM xM ?_;intro v11 dx ee gh bl fJ
      obtain⟨fh,eG,rfl⟩:=gh))
   exact ycf
  ·exact ybm
theorem c2j (v:Vu)(l:List Pc)(w:Wd)(h:Lst plE w.heap.size w v l)(hl:l.length<=1000) :
 Calls prog 106 #[.agg #[v,.func (.func 67) #[] #[]]] w λe w'=>∃u,e= .returned u/\w'.ownsRow w.heap.size 3 1 u (l.map Pc.id).length ((l.map Pc.id).flatMap nE.enc)/\Below w.heap.size w w':=by
 obtain⟨va,vc,rfl,-⟩:=h.form;have kX:=Blk.new w #[.slice va l.length vc,.func (.func 67) #[] #[]] 96;have hb:Below w.heap.size w (w.alloc (.cells #[.slice va l.length vc,.func (.func 67) #[] #[]] 96)):=(zR _ _).alloc (yR _) _;go_enter func106,ntmps106;go_upto_region 1 with fail;obtain⟨W1,hW⟩:=zE (w.alloc (.cells #[.slice va l.length vc,.func (.func 67) #[] #[]] 96));have hL:=h.below hb;rw[hW]at kX hb hL ⊢;clear hW h;obtain⟨X,hX⟩:=zE w.heap.size;have c0:W1.cell? ⟨X,0,none⟩=some (.slice va l.length vc):=hX▸kX.cell 0;rw[hX]at kX hL ⊢;have aH:X<=W1.heap.size:=hX▸hb.size;go_wp2_with fail;clear c0;go_loopw [3,9] (λvv kk wr=>∃k:Nat,k<=l.length/\kk= .int .i64 (k:Nat)/\wr.ownsRow X 3 1 vv ((l.take k).map Pc.id).length (((l.take k).map Pc.id).flatMap nE.enc)/\Hid (Below X W1 wr)/\Blk wr X #[.slice va l.length vc,.func (.func 67) #[] #[]] 96) (λvv kk _=>l.length-(intOf kk).toNat)
 case atStart=>exact yeq
 case round =>
  obtain⟨k,eK,rfl,ag,bW,lB⟩:=hrel;by_cases ab:k<l.length
  ·have aj:(k:Int)<(l.length:Int):=xM
   have oJ:=hL.below bW.out;obtain⟨b,off,cap,hv,-,bS,hc⟩:=oJ.some_ xM;simp only[Value.slice.injEq,true_and]at hv;obtain⟨rfl,rfl⟩:=hv;obtain⟨p,hp⟩:=zE (l[k]);have fS:=hc k ab;rw[hp]at fS;have rh:(l.take (k+1)).map Pc.id=(l.take k).map Pc.id++[p.id]:=by rw[<-hp,<-List.take_append_getElem ab,List.map_append];rfl
   have uL:((l.take k).map Pc.id).length<=1000:=by rw[List.length_map,List.length_take];omega
   have hid:=λX=>b0x p X
   obtain⟨id,x,y,cls,nm,wt,ds⟩:=p;obtain⟨d0,d1,d2,d3,d4,d5,d6⟩:=b0e fS;obtain⟨K,hK⟩:=zE ((l.take k).map Pc.id);rw[hK]at ag rh uL;obtain⟨ua,uc,rfl,-⟩:=(a0g nOk ag xM).form;have dX:=bW.out.size;clear fS hc oJ hK hp;go_upto_region 5 with fail;have kP:=Blk.new wr #[.int .i64 id,.int .i64 x,.int .i64 y,.string cls,.string nm,.int .i64 wt,.int .i64 ds] 48;have gb:Below wr.heap.size wr (wr.alloc (.cells #[.int .i64 id,.int .i64 x,.int .i64 y,.string cls,.string nm,.int .i64 wt,.int .i64 ds] 48)):=(zR _ _).alloc (yR _) _;obtain⟨W9,iB⟩:=zE (wr.alloc (.cells #[.int .i64 id,.int .i64 x,.int .i64 y,.string cls,.string nm,.int .i64 wt,.int .i64 ds] 48));rw[iB]at kP gb ⊢;obtain⟨BP,gS⟩:=zE wr.heap.size;have wE:=gb.size;have gd:=a0c ag gb;have kt:=lB.below gb lB.lt;have pV:Below X W1 W9:=bW.out.trans (gb.mono xM);rw[gS]at kP ⊢;obtain⟨r0,r1,r2,r3,r4,r5,r6⟩:=zN7 kP;have q1:W9.cell? ⟨X,1,none⟩=some (.func (.func 67) #[] #[]):=kt.cell 1;clear iB d0 d1 d2 d3 d4 d5 d6 gS kP ag;simp only at hid;go_wp2_with (first
    |(go_at_call 67;(with_reducible refine(hid _).mono ?_);rintro e W8⟨rfl,aJ⟩
      have dh:=a0c gd aJ;have oZ:=kt.below aJ kt.lt;have fK:=a0y dh oZ jM;have uC:=aJ.size)
    |(at_builtin;refine El.push nOk nIn qM _ _ qM qM dh id qM rfl xM xM ?_;intro v11 dx ee gh bl fJ
      obtain⟨fh,eG,rfl⟩:=gh))
   exact ycf
  ·exact ybm
end
end Go.Proofs.YteijfnkidefekaaGreat
