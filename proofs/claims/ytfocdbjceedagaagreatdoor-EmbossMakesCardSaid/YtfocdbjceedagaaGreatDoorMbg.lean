/-
  Parts.
-/
import Derived.Test.YtfocdbjceedagaaGreatDoorMbf
set_option linter.unusedVariables false
set_option linter.unusedSimpArgs false
set_option maxHeartbeats 8000000
set_option maxRecDepth 100000
namespace Go.Proofs.YtfocdbjceedagaaGreatDoor
open Tryz
section
open Go Go.RowKit Go.Shelf Go.Lib Go.Sort
attribute [local go_sem] Oper.semAt_some
attribute [local go_sem ↓] Go.wp_at_zero Go.wp_at_succ
section
variable {α:Type}{E:El α}{P:Program}{st:TypeId}{w:World}{l:List α}
theorem El.step_pushL (hE:E.Ok)(hI:E.In P st){o:Oper}{a:Act}{K:Act->World->Prop}{Q:Exit->Act->World->Prop}(_hgd:o.guard=none)(sO xO:Operand)(ho:o.op= .call { callee:= .builtin .append,args:= #[sO,xO],argTypes:= #[st,st] })
 {base:Nat} {v:Value} (hs:a.eval sO=v) (hrow:w.ownsRow base E.t E.s v l.length (l.flatMap E.enc)) (l2:List α) {u:Value} {n0:Nat} (hx:a.eval xO=u) (hL:Lst E n0 w u l2) (hpos:0<l2.length) (hbase:base<=w.heap.size) (hl:l.length+l2.length<=100000)
 (h:∀v' w',w'.ownsRow base E.t E.s v' (l++l2).length ((l++l2).flatMap E.enc)->(∃a c,v'= .slice a (l.length+l2.length) c)->w.grownBy w' v.ownBlock->Below base w w'->K (a.put o.dst v') w'):Oper.wp P o a w K Q:=by
 obtain⟨i,z,hi,hz,hsz,hby,hzs⟩:=hI.info;obtain⟨b,off,cap,rfl,hcap,hbn,-⟩:=hL.some_ hpos;refine wp_append_lies w sO xO st ho base E.t i z E.s i.bytes hI.under hi hz hsz rfl hzs hE.pos v l.length _ hs hrow ⟨b,off,none⟩ l2.length cap (l2.flatMap E.enc) hx (a0v hE l2) ?_ (a4g hE l2) hpos oK (Nat.le_trans (Nat.mul_le_mul hl hby) jM) hbase _ rfl ?_
 ·intro j u hj
  rw[Addr.add_lit];exact hL.flat hE j u hj
 ·intro g cap' w' hown hg hgo hlt
  refine h _ w' ?_ ⟨_,_,rfl⟩ hg (a1n hg hbase (λk e=>(hrow.lt k e).1));simpa[List.flatMap_append]using hown
end
theorem Lst.single {α:Type}{E:El α}(hE:E.Ok){W:World}{b:Nat}{x:α}(h:Blk W b (E.enc x).toArray E.t):Lst E W.heap.size W (.slice (some ⟨b,0,none⟩) 1 1) [x]:=by
 refine⟨_,1,rfl,yR _,by simp,λj hj=> ?_⟩;have hj0:j=0:=by simp at hj;omega
 subst hj0;refine⟨b,0,rfl,h.lt,λi hi=> ?_⟩;simp only[Nat.zero_mul,Nat.zero_add];rw[h.cell i];simp
theorem b7i {α:Type}{s:Array α}{i j:Nat}{v:α}(d:α)(h:i≠j):(s.setIfInBounds i v).getD j d=s.getD j d:=by
 simp[Array.getD_eq_getD_getElem?,Array.getElem?_setIfInBounds,h]
abbrev stP (s:Array Bool):Nat:=if s.getD 7 false then 1 else 0
theorem d0o (s:Array Bool)(i:Nat)(h1:i≠7):stP (s.setIfInBounds i true)=stP s:=by
 unfold stP;rw[b7i false h1]
structure PzR (wr:World)(B5:Nat)(p:Pc)(v:Value)(l:List Pc)(g:Nat)(W:World):Prop where
 bel:Below wr.heap.size wr W
 p:PlC W B5 0 p
 v:Lst plE wr.heap.size W v l
theorem PlC.up30 {W W':World}{b o n:Nat}{p:Pc}(h:PlC W b o p)(hb:Below n W W')(hn:b<n):PlC W' b o p :=
 ⟨(hb.cell (p:=⟨b,o,none⟩) hn).trans h.c0,(hb.cell (p:=⟨b,o+1,none⟩) hn).trans h.c1,(hb.cell (p:=⟨b,o+2,none⟩) hn).trans h.c2,(hb.cell (p:=⟨b,o+3,none⟩) hn).trans h.c3,(hb.cell (p:=⟨b,o+4,none⟩) hn).trans h.c4,(hb.cell (p:=⟨b,o+5,none⟩) hn).trans h.c5,(hb.cell (p:=⟨b,o+6,none⟩) hn).trans h.c6⟩
theorem PzR.low {wr W W':World}{B5:Nat}{p:Pc}{v:Value}{l:List Pc}{g g':Nat}(h:PzR wr B5 p v l g W)(hb:Below wr.heap.size W W')(hB:B5<wr.heap.size):PzR wr B5 p v l g' W' :=
 ⟨h.bel.trans hb,h.p.up30 hb hB,h.v.below hb⟩
def FZu (wr:World)(oa:Option Addr)(oc n B5:Nat)(O:List Pc)(p:Pc)(i:Nat)(v:Value)(g:Nat)(w:World):Prop :=
 match i with
 |0=>∃Z,v= .slice (some ⟨Z,0,none⟩) 0 0/\wr.heap.size<=Z/\(g=0->Blk w Z #[] 66)
 |1=>v= .slice oa O.length oc
 |2=>v= .int .i64 (n:Nat)
 |3=>v= .slice oa n oc
 |4=>∃gu c,v= .slice (some ⟨gu,0,none⟩) (O.take n).length c/\(g=0->w.ownsRow wr.heap.size 66 7 v (O.take n).length ((O.take n).flatMap plE.enc))
 |5=>v= .agg #[.int .i64 p.id,.int .i64 p.x,.int .i64 p.y,.string p.cls,.string p.nm,.int .i64 p.wt,.int .i64 p.ds]
 |6=>∃L,v= .slice (some ⟨L,0,none⟩) 1 1/\wr.heap.size<=L/\(g=0->Blk w L #[.int .i64 p.id,.int .i64 p.x,.int .i64 p.y,.string p.cls,.string p.nm,.int .i64 p.wt,.int .i64 p.ds] 66)
 |7=>∃gu c,v= .slice (some ⟨gu,0,none⟩) (O.take n++[p]).length c/\1<=g/\(g=1->w.ownsRow wr.heap.size 66 7 v (O.take n++[p]).length ((O.take n++[p]).flatMap plE.enc))
 |8=>v= .slice oa O.length oc
 |9=>v= .int .i64 (n:Nat)
 |10=>Lst plE wr.heap.size w v (O.drop n)/\Frm v (O.drop n).length
 |_=>False
theorem FZu.kept {wr:World}{oa:Option Addr}{oc n B5:Nat}{O:List Pc}{p:Pc}{i:Nat}{v:Value}{g g':Nat}{w w':World}(h:FZu wr oa oc n B5 O p i v g w)(hg:g<=g'/\(g'=g->Below w.heap.size w w')/\Below wr.heap.size w w'):FZu wr oa oc n B5 O p i v g' w':=by
 unfold FZu at *;split at h
 all_goals first|exact h|(obtain⟨L,h1,h2,h3⟩:=h;exact⟨L,h1,h2,λe=>by have e0:g=0:=oM;exact(h3 e0).below (hg.2.1 oM) (h3 e0).lt⟩)|(obtain⟨gu,cap,h1,h2⟩:=h;exact⟨gu,cap,h1,λe=>by have e0:g=0:=oM;exact a1e (h2 e0) (hg.2.1 oM)⟩)|(obtain⟨gu,cap,h1,h2,h3⟩:=h;exact⟨gu,cap,h1,oM,λe=>by have e0:g=1:=oM;exact a1e (h3 e0) (hg.2.1 oM)⟩)|(exact⟨h.1.below hg.2.2,h.2⟩)
theorem d4l {W:World}{b n m:Nat}{a:Option Addr}{c:Nat}{v:Value}{xs:List Value}(h:W.ownsRow b 66 7 v n xs)(e:v= .slice a m c)(hn:0<n:=by simp):∃g,a=some ⟨g,0,none⟩:=by
 rcases h.2 with⟨h1,h2⟩|⟨g,cap,cur,h1,-⟩
 ·omega
 ·rw[h1]at e
  cases e;exact⟨g,rfl⟩
theorem d7h {j:Nat}(h:j<=1000):IntKind.i64.wrap (j:Int)=(j:Int):=by rw[IntKind.wrap_i64];omega
theorem e0w {p q:Pc}(h:q.wt<p.wt\/(p.wt=q.wt/\p.id<q.id)):ltOf a1j p q=true:=(c8t p q).2 h
theorem e0x {p q:Pc}(h:¬(q.wt<p.wt\/(p.wt=q.wt/\p.id<q.id))):ltOf a1j p q=false:=(c8u p q).2 h
theorem b5g (ev fv wv pv:Value)(l:List Pc)(w:World)(hL:Lst plE w.heap.size w pv l)(hF:Frm pv l.length)(hl:l.length<=900) :
 Calls prog 40 #[b7q ev fv wv pv] w λe w'=>∃v,e= .returned v/\w'.ownsRow w.heap.size 66 7 v l.length ((a0t l).flatMap plE.enc)/\Below w.heap.size w w':=by
 obtain⟨pa,pc,rfl,hpc⟩:=hL.form;go_enter func40,ntmps40;go_upto_region 1 with fail;have k2:=Blk.new w #[ev,fv,wv,.slice pa l.length pc] 37;have hb:Below w.heap.size w (w.alloc (.cells #[ev,fv,wv,.slice pa l.length pc] 37)):=zC;obtain⟨W,hW⟩:=zE (w.alloc (.cells #[ev,fv,wv,.slice pa l.length pc] 37));obtain⟨BM,hBM⟩:=zE w.heap.size;rw[hW]at k2 hb ⊢;have hLW:=hL.up hb;rw[hBM]at k2 hb ⊢;clear hW hL;go_wp2_with fail;go_loopw [3,4] (λvv kk wr=>∃k:Nat,k<=l.length/\kk= .int .i64 (k:Nat)/\Hid (wr.ownsRow W.heap.size 66 7 vv (a1w (l.take k)).length ((a1w (l.take k)).flatMap plE.enc))/\Below W.heap.size W wr) (λ_ kk _=>l.length-(intOf kk).toNat)
 case atStart=>exact⟨0,Nat.zero_le _,rfl,Lib.hid ⟨by simp[a1w],.inl ⟨rfl,by simp[a1w]⟩⟩,zR _ _⟩
 case round =>
  obtain⟨k,hkl,rfl,hrow,hbr⟩:=hrel;have m3:wr.cell? ⟨BM,3,none⟩=some (.slice pa l.length pc):=(k2.below hbr k2.lt).cell 3;have hzr:=hbr.size;by_cases hlt:k<l.length
  ·have hltI:(k:Int)<(l.length:Int):=oM
   have hLr:=hLW.up hbr;obtain⟨b,off,cap,hv,-,hbl,hc⟩:=hLr.some_ oM;simp only[Value.slice.injEq,true_and]at hv;obtain⟨rfl,rfl⟩:=hv;obtain⟨p,hp⟩:=zE (l[k]);have hck:=hc k hlt;rw[hp]at hck;have hKn:a1w (l.take (k+1))=d5j p (a1w (l.take k)):=by rw[<-hp,<-List.take_append_getElem hlt,b9l]
   have hKl:(a1w (l.take k)).length=k:=by rw[c2p,List.length_take];omega
   obtain⟨O,hO⟩:=zE (a1w (l.take k));rw[hO]at hrow hKn hKl;have hO9:O.length<=900:=oM;obtain⟨oa,oc,rfl,hoc⟩:=(a0h a4f hrow.out oM).form;have hFO:Frm (.slice oa O.length oc) O.length:=a1p hrow.out;obtain⟨d0,d1,d2,d3,d4,d5,d6⟩:wr.cell? ⟨b,off+k*7,none⟩=some (.int .i64 p.id)/\wr.cell? ⟨b,off+k*7+1,none⟩=some (.int .i64 p.x)/\wr.cell? ⟨b,off+k*7+2,none⟩=some (.int .i64 p.y)/\wr.cell? ⟨b,off+k*7+3,none⟩=some (.string p.cls)/\wr.cell? ⟨b,off+k*7+4,none⟩=some (.string p.nm)/\wr.cell? ⟨b,off+k*7+5,none⟩=some (.int .i64 p.wt)/\wr.cell? ⟨b,off+k*7+6,none⟩=some (.int .i64 p.ds):=⟨hck 0 (show 0<7 by decide),hck 1 (show 1<7 by decide),hck 2 (show 2<7 by decide),hck 3 (show 3<7 by decide),hck 4 (show 4<7 by decide),hck 5 (show 5<7 by decide),hck 6 (show 6<7 by decide)⟩;replace hKl:=Lib.hid hKl;clear hck hc hLr hp hO;go_upto_region 6 with fail;have kP:=Blk.new wr #[.int .i64 p.id,.int .i64 p.x,.int .i64 p.y,.string p.cls,.string p.nm,.int .i64 p.wt,.int .i64 p.ds] 66;have hbP:Below wr.heap.size wr (wr.alloc (.cells #[.int .i64 p.id,.int .i64 p.x,.int .i64 p.y,.string p.cls,.string p.nm,.int .i64 p.wt,.int .i64 p.ds] 66)):=(zR _ _).alloc (yR _) _;obtain⟨W9,hW9⟩:=zE (wr.alloc (.cells #[.int .i64 p.id,.int .i64 p.x,.int .i64 p.y,.string p.cls,.string p.nm,.int .i64 p.wt,.int .i64 p.ds] 66));rw[hW9]at kP hbP ⊢;obtain⟨B5,hBP⟩:=zE wr.heap.size;have hrow9:=a1e hrow.out hbP;have hb19:Below W.heap.size W W9:=hbr.trans (hbP.mono hzr);rw[hBP]at kP ⊢;have hL9:=a0h a4f hrow9 oM;replace hrow9:=Lib.hid hrow9;clear hW9 d0 d1 d2 d3 d4 d5 d6 hBP m3;go_upto_block 2 with fail;go_cut [6] (λv wx=>v= .int .i64 (a2b p O O.length:Nat)/\Below W9.heap.size W9 wx)
   case first =>
    go_wp2_with fail;go_loopw [6] (λva wx=>∃j:Nat,va= .int .i64 (j:Nat)/\j<=O.length/\Hid (a2b p O j=a2b p O O.length)/\Below W9.heap.size W9 wx) (λva _=>(intOf va).toNat)
    case atStart=>exact⟨O.length,rfl,yR _,Lib.hid rfl,zR _ _⟩
    case round =>
     obtain⟨j,rfl,hjO,hpos,hbx⟩:=hrel;have kPx:=kP.below hbx kP.lt;have cw:wr.cell? ⟨B5,5,none⟩=some (.int .i64 p.wt):=kPx.cell 5;have ci:wr.cell? ⟨B5,0,none⟩=some (.int .i64 p.id):=kPx.cell 0;have hLx:=hL9.up hbx;have stop:(j=0\/∃h:j-1<O.length,ltOf a1j p O[j-1]=false)->a2b p O O.length=j:=λhs=>by
      rw[<-hpos.out];rcases hs with rfl|⟨h1,h2⟩
      ·rfl
      ·rcases Nat.eq_zero_or_pos j with rfl|hj
       ·rfl
       ·obtain⟨i,rfl⟩:∃i,j=i+1:=⟨j-1,oM⟩
        exact a7u h1 h2
     by_cases hj0:j=0
     ·subst hj0
      have hst:=stop (.inl rfl);clear stop hpos;have hz:¬(0:Int)<((0:Nat):Int):=oM;exact yay
     ·obtain⟨i,rfl⟩:∃i,j=i+1:=⟨j-1,oM⟩
      have hil:i<O.length:=hjO;obtain⟨b2,o2,c2,hv2,-,-,hc2⟩:=hLx.some_ oM;simp only[Value.slice.injEq,true_and]at hv2;obtain⟨rfl,rfl⟩:=hv2;obtain⟨q,hq⟩:=zE (O[i]);have hck:=hc2 i hil;rw[hq]at hck;obtain⟨qi,qw⟩:wr.cell? ⟨b2,o2+i*7,none⟩=some (.int .i64 q.id)/\wr.cell? ⟨b2,o2+i*7+5,none⟩=some (.int .i64 q.wt):=⟨hck 0 (show 0<7 by decide),hck 5 (show 5<7 by decide)⟩;have hwi:IntKind.i64.wrap (i:Int)=(i:Int):=d7h oM;have hiI:(i:Int)<(O.length:Int):=oM;have hi0:(0:Int)<(i:Int)+1:=oM;have go:ltOf a1j p O[i]=true->a2b p O i=a2b p O O.length:=λh=>by rw[<-hpos.out,a7t hil h]
      have stop':ltOf a1j p O[i]=false->a2b p O O.length=i+1:=λh=>stop (.inr ⟨hil,h⟩)
      rw[hq]at go stop';replace go:=Lib.hid go;replace stop':=Lib.hid stop';clear hck hc2 hLx stop hpos hq;by_cases hc1:q.wt<p.wt
      ·have hgo:=go.out (e0w (.inl hc1))
       exact yby
      ·by_cases hc2:p.wt=q.wt
       ·have hqe:(p.wt==q.wt)=true:=by simpa using hc2
        replace hc2:=Lib.hid hc2;by_cases hc3:p.id<q.id
        ·have hgo:=go.out (e0w (.inr ⟨hc2.out,hc3⟩))
         exact yby
        ·have hst:=stop'.out (e0x (by have:=hc2.out;rintro(h|h) <;> omega))
         exact yay
       ·have hst:=stop'.out (e0x (by rintro(h|h) <;> omega))
        exact yay
   case rest =>
   obtain⟨rfl,hbx⟩:=hcut;go_upto_region 9 with fail;have hn:=b3a p O O.length;have hin:d5j p O=O.take (a2b p O O.length)++p::O.drop (a2b p O O.length):=rfl;obtain⟨n,hne⟩:=zE (a2b p O O.length);rw[hne]at hn hin ⊢;clear hne;obtain⟨W8,hW8⟩:∃X,X=wc:=⟨_,rfl⟩;subst hW8;have kPx:=kP.below hbx kP.lt;have hB5:=kPx.lt;have hPl:PlC W8 B5 0 p:=⟨kPx.cell 0,kPx.cell 1,kPx.cell 2,kPx.cell 3,kPx.cell 4,kPx.cell 5,kPx.cell 6⟩;have hLx:=hL9.up hbx;have hn0:(n:Int)<=(oc:Int):=oM;have hn1:(n:Int)<=(O.length:Int):=oM;have hn2:(O.length:Int)<=(oc:Int):=oM;have hfp:=hFO;refine Go.wp_region_set 11 zM zM stP (λg X=>PzR W8 B5 p (.slice oa O.length oc) O g X) (λg w g' w'=>g<=g'/\(g'=g->Below w.heap.size w w')/\Below W8.heap.size w w') (FZu W8 oa oc n B5 O p) (λ_ _ _ _ _ _ h g=>h.kept g) ?init9 ?step9 ?tail9
   case init9=>exact⟨(zR _ _).drew,hPl.up30 (zR _ _).drew hB5,hLx.below (zR _ _).drew⟩
   case step9 =>
    clear hrow9 hb19 hLW k2 hrow kP kPx hPl hL9 hbx hbP hbr hb;intro i o hi ho s bb W inv hun haf hM hA hD K hK;have hst:=d0o s;obtain⟨g,hg⟩:=zE (stP s);rw[hg]at hM hD hK hst;have hsz:s.size=13:=inv.size;have c4:s.getD 7 false=true->s.getD 4 false=true:=λh=>c7p inv 7 4 rfl h zM
    have h7:s.getD 7 false=false->g=0:=λh=>by
     rw[<-hg];unfold stP;rw[h];rfl
    have h4:s.getD 4 false=false->g=0:=λh=>h7 (by
     cases e:s.getD 7 false with
     |false=>rfl
     |true=>have:=c4 e;rw[h]at this;cases this)
    have hst1:s.getD 7 false=false->1=stP (s.setIfInBounds 7 true):=λh=>by
     unfold stP;rw[show(s.setIfInBounds 7 true).getD 7 false=true from by simp[hsz]];rfl
    replace hst1:=Lib.hid hst1;clear c4 hg hsz inv;match i,hi,ho with
    |0,_,ho =>
     cases ho;go_simp;exact hK (.slice (some ⟨W.heap.size,0,none⟩) 0 0) g _ ⟨_,rfl,hM.bel.size,λ_=>Blk.new _ _ _⟩ ⟨yR _,λ_=>(zR _ _).alloc (yR _) _,(zR _ _).alloc hM.bel.size _⟩ (hM.low ((zR _ _).alloc hM.bel.size _) hB5) (hst _ jM).symm
    |1,_,ho =>
     exact yfc
    |2,_,ho =>
     exact yfh
    |3,_,ho =>
     cases ho;have f59:=a0a (v:= .slice oa O.length oc) (a0d hD 1 59 zM rfl rfl);have f60:=a0a (v:= .int .i64 (n:Nat)) (a0d hD 2 60 zM rfl rfl);go_simp;exact hK (.slice oa n oc) g W rfl (⟨yR _,λ_=>zR _ _,zR _ _⟩) hM (hst _ jM).symm
    |4,_,ho =>
     cases ho;have f58:=a0d hD 0 58 zM rfl rfl;have f61:=a0a (v:= .slice oa n oc) (a0d hD 3 61 zM rfl rfl);obtain⟨Z,h1,h2,h3⟩:=f58;have hg0:=h4 hun;obtain⟨hL,hF⟩:=d0n (k:=n) hM.v hfp oM;refine El.step_freshO a4f d5b _ _ qM _ Z h1 (b9a (h3 hg0) h2) _ (O.take n) (c4v f61) hL hF (by rw[List.length_take];omega) hM.bel.size ?_;rintro v9 w9 hr9 hb9⟨gu,c,e9,-⟩;exact hK v9 g w9 ⟨gu,c,e9,λ_=>hr9⟩ ⟨yR _,λ_=>hb9,hb9.mono hM.bel.size⟩ (hM.low (hb9.mono hM.bel.size) hB5) (hst _ jM).symm
    |5,_,ho =>
     cases ho;have f5:=a0a (v:= .pointer (some ⟨B5,0,none⟩)) (hA.at_ (k:=5) zM);have z0:W.cell? ⟨B5,0,none⟩=some (.int .i64 p.id):=hM.p.c0;have z1:W.cell? ⟨B5,1,none⟩=some (.int .i64 p.x):=hM.p.c1;have z2:W.cell? ⟨B5,2,none⟩=some (.int .i64 p.y):=hM.p.c2;have z3:W.cell? ⟨B5,3,none⟩=some (.string p.cls):=hM.p.c3;have z4:W.cell? ⟨B5,4,none⟩=some (.string p.nm):=hM.p.c4;have z5:W.cell? ⟨B5,5,none⟩=some (.int .i64 p.wt):=hM.p.c5;have z6:W.cell? ⟨B5,6,none⟩=some (.int .i64 p.ds):=hM.p.c6;go_simp;exact hK (.agg #[.int .i64 p.id,.int .i64 p.x,.int .i64 p.y,.string p.cls,.string p.nm,.int .i64 p.wt,.int .i64 p.ds]) g W rfl (⟨yR _,λ_=>zR _ _,zR _ _⟩) hM (hst _ jM).symm
    |6,_,ho =>
     cases ho;have f63:=a0a (v:= .agg #[.int .i64 p.id,.int .i64 p.x,.int .i64 p.y,.string p.cls,.string p.nm,.int .i64 p.wt,.int .i64 p.ds]) (a0d hD 5 63 zM rfl rfl);go_simp;exact hK (.slice (some ⟨W.heap.size,0,none⟩) 1 1) g _ ⟨_,rfl,hM.bel.size,λ_=>Blk.new _ _ _⟩ ⟨yR _,λ_=>(zR _ _).alloc (yR _) _,(zR _ _).alloc hM.bel.size _⟩ (hM.low ((zR _ _).alloc hM.bel.size _) hB5) (hst _ jM).symm
    |7,_,ho =>
     cases ho;have f62:=a0d hD 4 62 zM rfl rfl;have f64:=a0d hD 6 64 zM rfl rfl;obtain⟨gu,c,h1,h2⟩:=f62;obtain⟨L,k1,k2,k3⟩:=f64;have hg0:=h7 hun;have hr1:=h2 hg0;rw[h1]at hr1;refine El.step_pushL a4f d5b qM _ _ qM h1 hr1 [p] k1 (Lst.single a4f (x:=p) (k3 hg0)) vM hM.bel.size (by rw[List.length_take,List.length_singleton];omega) ?_;rintro v9 w9 hr9⟨a,c,e9⟩ hg9 hb9;obtain⟨gv,hgv⟩:=d4l hr9 e9;exact hK v9 1 w9 ⟨gv,c,by rw[e9,hgv];simp,yR _,λ_=>hr9⟩ ⟨oM,λe=>by omega,hb9⟩ (hM.low hb9 hB5) (hst1.out hun)
    |8,_,ho =>
     exact yfc
    |9,_,ho =>
     exact yfh
    |10,_,ho =>
     cases ho;have f66:=a0a (v:= .slice oa O.length oc) (a0d hD 8 66 zM rfl rfl);have f67:=a0a (v:= .int .i64 (n:Nat)) (a0d hD 9 67 zM rfl rfl);have hT:=b9x (k:=n) hM.v hfp oM;go_simp;exact hK _ g W hT ⟨yR _,λ_=>zR _ _,zR _ _⟩ hM (hst _ jM).symm
    |i+11,hi,_=>exact absurd hi oM
   case tail9 =>
    intro bb s W' hs hM hA hall;have hs1:stP s=1:=by
     unfold stP;rw[hs 7 oM];rfl
    rw[hs1]at hM hall;obtain⟨gu,c,h65,-,hr65⟩:=(show ∃gu c,bb.eval (.tmp 65)= .slice (some ⟨gu,0,none⟩) (O.take n++[p]).length c/\1<=1/\(1=1->W'.ownsRow W8.heap.size 66 7 (bb.eval (.tmp 65)) (O.take n++[p]).length ((O.take n++[p]).flatMap plE.enc))from hall 7 oM _ _ rfl rfl);obtain⟨hL68,hF68⟩:=(show Lst plE W8.heap.size W' (bb.eval (.tmp 68)) (O.drop n)/\Frm (bb.eval (.tmp 68)) (O.drop n).length from hall 10 oM _ _ rfl rfl);replace hr65:=hr65 rfl;obtain⟨v68,hv68⟩:=zE (bb.eval (.tmp 68));rw[h65]at hr65;rw[hv68]at hL68 hF68;have hfr:=hA.frame (rT 58 (rF 11 (rT 2 ([])))) _ rfl zM;clear hall hA hs hs1;obtain⟨f,hf⟩:∃f:Nat->Value,(λk=>bb.tmps.getD k undef)=f:=⟨_,rfl⟩;have g65:f 65= .slice (some ⟨gu,0,none⟩) (O.take n++[p]).length c:=by rw[<-hf,<-h65];rfl
    have g68:f 68=v68:=by rw[<-hf,<-hv68];rfl
    rw[hf]at hfr;clear hf h65 hv68;subst hfr;simp only[rT,rF,a1z,g65,g68,Nat.reduceAdd];clear g65 g68;simp only[zU];have hbM:=hM.bel;have hb9M:Below W9.heap.size W9 W':=hbx.trans (hbM.mono hbx.size);have hsum:(O.take n++[p]).length+(O.drop n).length<=100000:=by rw[List.length_append,List.length_take,List.length_drop,List.length_singleton];omega
    clear hM;refine El.join a4f d5b qM _ _ qM W8.heap.size qM (O.take n++[p]) hr65 ⟨_,_,rfl⟩ (O.drop n) qM hL68 hF68 hsum hbM.size ?_;rintro v9 w9 hr9 hg9 hb9⟨g9,c9,rfl⟩;rw[show O.take n++[p]++O.drop n=d5j p O by rw[hin];simp]at hr9;have hb9w:Below W.heap.size W w9:=hb19.trans ((hb9M.trans (hb9.mono hbx.size)).mono hb19.size);have hr9w:=a6y hr9 (Nat.le_trans hb19.size hbx.size);rw[<-hKn]at hr9w;rw[show(O.take n++[p]++O.drop n).length=(a1w (l.take (k+1))).length by rw[hKn,hin];simp];obtain⟨m,hm⟩:=zE ((a1w (l.take (k+1))).length);rw[hm]at hr9w ⊢;replace hr9w:=Lib.hid hr9w;replace hm:=Lib.hid hm;clear hr9;go_wp2_with fail;go_roundw
    case rel=>exact⟨k+1,oM,by go_num,by rw[hm.out];exact hr9w,hb9w⟩
    case measure=>first|(simp[intOf];done)|(simp[intOf];omega)
  ·obtain rfl:k=l.length:=oM
   have hge:¬(l.length:Int)<(l.length:Int):=oM;go_wp2_with fail;go_ret;have hr2:=hrow.out;rw[List.take_length,b4y,(a1c l).length_eq]at hr2;have hz:=hb.size;rw[hBM]at hz;exact⟨_,rfl,a6y hr2 hz,hb.trans (hbr.mono hz)⟩
end
section
open Go Go.RowKit Go.Shelf
attribute [local go_sem] Oper.semAt_some
attribute [local go_sem ↓] Go.wp_at_zero Go.wp_at_succ
variable{k:Nat}
theorem d4m (p:Pc)(hp:p.nm.size<=1000)(w:World):
 Calls prog 43 #[plV p] w (d8j (d1k p) w):=by
 have hW:=c2x p.nm hp;unfold d1k;obtain⟨id,x,y,cl,nm,wt,ds⟩:=p;simp only at hW ⊢;by_cases hn:nm=⟨#[]⟩
 ·subst hn
  rw[if_pos rfl];go_enter func43,ntmps43;exact ybm
 ·rw[if_neg hn]
  have hne:=c4y hn;obtain⟨c,hc⟩:=zE ((a5s nm).1);obtain⟨er,her⟩:=zE ((a5s nm).2);rw[hc,her]at hW ⊢;clear hc her hn;by_cases h0:er=0
  ·subst h0
   rw[if_pos rfl];go_enter func43,ntmps43;go_wp2_with (go_at_call 97;refine(hW _).mono ?_;rintro e w'⟨rfl,hb_⟩;obtain⟨p,rfl⟩:=a0b hb_;clear hb_);exact ybq
  ·rw[if_neg h0]
   have h0b:(er==0)=false:=by simpa using h0
   go_enter func43,ntmps43;go_wp2_with (go_at_call 97;refine(hW _).mono ?_;rintro e w'⟨rfl,hb_⟩;obtain⟨p,rfl⟩:=a0b hb_;clear hb_);exact ybt
theorem b5h (s:Sh)(ev fv wv:Value)(pa:Option Addr)(n pc:Nat)(w:World):
 Calls prog 38 #[.agg #[ev,fv,wv,.slice pa n pc],shV s] w λe w'=>e= .returned (.int .i64 (a3c s n))/\Below w.heap.size w w':=by
 unfold a3c;obtain⟨r,hr⟩:=zE (a1g s);have hC:=λw=>b5e s w
 rw[hr]at hC;rw[hr];clear hr;obtain⟨ax,ay,st,sw,sh,sg⟩:=s;by_cases h0:r=0
 ·subst h0
  rw[if_pos rfl];by_cases hn:80<n
  ·rw[if_pos hn]
   have hnI:(80:Int)<(n:Int):=oM;exact ydn
  ·rw[if_neg hn]
   have hnI:¬(80:Int)<(n:Int):=oM;exact ydn
 ·rw[if_neg h0]
  exact ydn
theorem c7a (ev fv wv pv:Value)(l:List Pc)(w:World)(hL:Lst plE w.heap.size w pv l)(hF:Frm pv l.length)(hl:l.length<=100):
 Calls prog 15 #[b7q ev fv wv pv] w λe w'=>∃v,e= .returned v/\Lst inE w'.heap.size w' v ((a0t l).map Pc.id)/\Frm v ((a0t l).map Pc.id).length/\Below w.heap.size w w':=by
 have hlS:(a0t l).length=l.length:=(a1c l).length_eq;have hP:=λX (hb:Below w.heap.size w X)=>b5g ev fv wv pv l X (hL.up hb) hF oM
 obtain⟨ps,hps⟩:=zE (a0t l);rw[hps]at hlS hP ⊢;go_enter func15,ntmps15;go_upto_region 2 with fail;have k2:=Blk.new w #[ev,fv,wv,pv] 37;have hb:Below w.heap.size w (w.alloc (.cells #[ev,fv,wv,pv] 37)):=zC;obtain⟨W,hW⟩:=zE (w.alloc (.cells #[ev,fv,wv,pv] 37));rw[hW]at k2 hb ⊢;clear hW;have hO:=hP W hb;obtain⟨m0,m1,m2,m3⟩:=zN4 k2;go_wp2_with (first
  |(go_at_call 40;refine hO.mono ?_;rintro e W1⟨v,rfl,hr1,hb1⟩;rw[<-hlS]at hr1;obtain⟨va,vc,rfl,hvc⟩:=(a0h a4f hr1 oM).form))
 have hbW1:Below w.heap.size w W1:=hb.trans (hb1.mono hb.size);have hLp:=a0h a4f hr1 oM;clear hO m0 m1 m2 m3 k2 hr1 hL hF hps hb hb1 hP;go_loopw [3,5] (λvv kk wr=>∃k:Nat,k<=ps.length/\kk= .int .i64 (k:Nat)/\wr.ownsRow W1.heap.size 3 1 vv ((ps.take k).map Pc.id).length (((ps.take k).map Pc.id).flatMap inE.enc)/\Below W1.heap.size W1 wr) (λvv kk _=>ps.length-(intOf kk).toNat)
 case atStart=>exact⟨0,Nat.zero_le _,rfl,⟨by simp,.inl ⟨rfl,by simp⟩⟩,zR _ _⟩
 case round =>
  obtain⟨k,hkl,rfl,hrow,hbr⟩:=hrel;by_cases hlt:k<ps.length
  ·have hltI:(k:Int)<(ps.length:Int):=oM
   have hLr:=hLp.up hbr;obtain⟨b,off,cap,hv,-,hbl,hc⟩:=hLr.some_ oM;simp only[Value.slice.injEq,true_and]at hv;obtain⟨rfl,rfl⟩:=hv;obtain⟨p,hp⟩:=zE (ps[k]);have hck:=hc k hlt;rw[hp]at hck;have hKn:(ps.take (k+1)).map Pc.id=(ps.take k).map Pc.id++[p.id]:=by rw[<-hp,<-List.take_append_getElem hlt,List.map_append];rfl
   have hKl:((ps.take k).map Pc.id).length<=1000:=by rw[List.length_map,List.length_take];omega
   obtain⟨id,x,y,cls,nm,wt,ds⟩:=p;have d0:wr.cell? ⟨b,off+k*7,none⟩=some (.int .i64 id):=hck 0 (show 0<7 by decide);obtain⟨K,hK⟩:=zE ((ps.take k).map Pc.id);rw[hK]at hrow hKn hKl;obtain⟨va,vc,rfl,-⟩:=(a0h b3b hrow oM).form;have hzr:=hbr.size;replace hKn:=Lib.hid hKn;clear hck hc hLr hK hp;go_wp2_with (first
    |(at_builtin;refine El.push b3b d5k qM _ _ qM qM hrow id qM rfl oM oM ?_;intro v11 w11 hr11 hf11 hg11 hb11
      obtain⟨a11,c11,rfl⟩:=hf11))
   go_roundw
   case rel=>exact⟨k+1,oM,by go_num,by rw[hKn.out];simpa using hr11,hbr.trans hb11⟩
   case measure=>simp[intOf];omega
  ·exact ydk
/-! the dot at a place -/
theorem b0o {α:Type}{f:α->Bool}{l:List α}(h:k<l.length)(h1:f l[k]=true)(h2:∀j (hj:j<k),f (l[j]'(Nat.lt_trans hj h))=false):l.findIdx? f=some k :=
 List.findIdx?_eq_some_iff_getElem.2 ⟨h,h1,λj hj=>by rw[h2 j hj];decide⟩
theorem b0p {α:Type}{f:α->Bool}{l:List α}(h2:∀j (hj:j<l.length),f l[j]=false):l.findIdx? f=none :=
 List.findIdx?_eq_none_iff.2 λx hx=>by
  obtain⟨j,hj,rfl⟩:=List.getElem_of_mem hx;exact h2 j hj
theorem d0p (dv kv lv:Value)(l:List Dt)(x y:Int)(w:World)(hl:Lst dtE w.heap.size w dv l)(hn:l.length<=100000):
 Calls prog 17 #[a3s dv kv lv,.int .i64 x,.int .i64 y] w λe w'=>e= .returned (d6w (l.find? (atD x y)))/\Below w.heap.size w w':=by
 obtain⟨fr,hfr⟩:=zE (l.find? (atD x y));rw[hfr];rw[b9m]at hfr;replace hfr:=Lib.hid hfr;obtain⟨da,dc,rfl,-⟩:=hl.form;go_enter func17,ntmps17;go_upto_region 1 with fail;have k2:=Blk.new w #[.slice da l.length dc,kv,lv] 45;have hb:Below w.heap.size w (w.alloc (.cells #[.slice da l.length dc,kv,lv] 45)):=zC;obtain⟨W,hW⟩:=zE (w.alloc (.cells #[.slice da l.length dc,kv,lv] 45));rw[hW]at k2 hb ⊢;clear hW;obtain⟨B3,hB3⟩:=zE w.heap.size;rw[hB3]at k2 ⊢;have hlW:=hl.up hb;have m0:W.cell? ⟨B3,0,none⟩=some (.slice da l.length dc):=k2.cell 0;go_wp2_with fail;go_loopw [8] (λkk wr=>∃k:Nat,k<=l.length/\kk= .int .i64 (k:Nat)/\Below W.heap.size W wr/\Hid (∀j (hj:j<k) (h:j<l.length),atD x y l[j]=false)) (λkk _=>l.length-(intOf kk).toNat)
 case atStart=>exact⟨0,Nat.zero_le _,rfl,zR _ _,Lib.hid λj hj=>absurd hj oM⟩
 case round =>
  obtain⟨k,hkl,rfl,hbr,hno⟩:=hrel;clear m0;have m0:wr.cell? ⟨B3,0,none⟩=some (.slice da l.length dc):=(k2.below hbr k2.lt).cell 0;by_cases hlt:k<l.length
  ·have hltI:(k:Int)<(l.length:Int):=oM
   have hLr:=hlW.up hbr;obtain⟨b,off,cap,hv,-,hbl,hc⟩:=hLr.some_ oM;simp only[Value.slice.injEq,true_and]at hv;obtain⟨rfl,rfl⟩:=hv;have hck:=hc k hlt;have hyes:=Lib.hid λh:atD x y l[k]=true=>b0o hlt h λj hj=>hno.out j hj oM
   have hget:=Lib.hid (List.getElem?_eq_getElem hlt);have hnx:=Lib.hid λh:atD x y l[k]=false=>(show ∀j (hj:j<k+1) (h:j<l.length),atD x y l[j]=false from λj hj h2=>by
    by_cases e:j=k
    ·subst e;exact h
    ·exact hno.out j oM h2)
   obtain⟨d,hd⟩:=zE (l[k]);rw[hd]at hck hyes hnx hget;obtain⟨e0,e1,e2,e3⟩:wr.cell? ⟨b,off+k*4,none⟩=some (.int .i64 d.x)/\wr.cell? ⟨b,off+k*4+1,none⟩=some (.int .i64 d.y)/\wr.cell? ⟨b,off+k*4+2,none⟩=some (.int .i64 d.k)/\wr.cell? ⟨b,off+k*4+3,none⟩=some (.int .i64 d.i):=⟨hck 0 (show 0<4 by decide),hck 1 (show 1<4 by decide),hck 2 (show 2<4 by decide),hck 3 (show 3<4 by decide)⟩;clear hck hc hd hLr;by_cases hx:d.x=x
   ·have hqx:(d.x==x)=true:=by simpa using hx
    by_cases hy:d.y=y
    ·have hqy:(d.y==y)=true:=by simpa using hy
     have hf:=hfr.out;rw[hyes.out (by simp[atD,hx,hy])]at hf;rw[show(some k).bind (λk=>l[k]?)=l[k]? from rfl,hget.out]at hf;subst hf;clear hfr hyes hnx hget hx hy hno;go_upto_region 5 with fail;first|with_reducible refine a0e zM zM ?_|with_reducible refine a0g zM zM ?_
     repeat(first|go_big_quiet_step (fail)|quiet_step (fail))
     refine wpQuiet_nil ?_;intro _ hw_;obtain⟨p,hw_⟩:=hw_;subst hw_;go_wp2_with fail;go_ret2;exact⟨rfl,hB3▸Go.below_growBy' (hb.trans (hbr.mono hb.size)) (hb.trans (hbr.mono hb.size)).size _⟩
    ·have hqy:(d.y==y)=false:=by simpa using hy
     have hn2:=Lib.hid (hnx.out (by simp[atD,hy]));clear hyes hnx hget hx hy hno;exact yeo
   ·have hqx:(d.x==x)=false:=by simpa using hx
    have hn2:=Lib.hid (hnx.out (by simp[atD,hx]));clear hyes hnx hget hx hno;exact yeo
  ·obtain rfl:k=l.length:=oM
   have hge:¬(l.length:Int)<(l.length:Int):=oM;have hf:=hfr.out;rw[b0p λj hj=>hno.out j hj hj]at hf;obtain rfl:fr=none:=hf.symm;clear hfr hno;go_wp2_with fail;go_ret2;exact⟨rfl,hB3▸hb.trans (hbr.mono hb.size)⟩
/-! dots that are too near -/
theorem d7i {W:World}{b off cap:Nat}{D:List Dt}(hk:k<D.length)(hb:b<W.heap.size)(hc:∀i,i<4->W.cell? ⟨b,off+k*4+i,none⟩=(a2c D[k])[i]?)(hf:fits D[k].x/\fits D[k].y):Dts W.heap.size W (.slice (some ⟨b,off+k*4,none⟩) 1 cap) [D[k]] :=
 .inr ⟨b,off+k*4,cap,rfl,hb,by simp,λd hd=>by rw[List.mem_singleton]at hd;subst hd;exact hf,λj hj=>by
  obtain rfl:j=0:=by simp at hj;omega
  exact⟨hc 0 jM,hc 1 jM,hc 2 jM,hc 3 jM⟩⟩
theorem d0q (s:Sh)(dv lv:Value)(D L:List Dt)(id:Int)(w:World)(hD:Lst dtE w.heap.size w dv D)(hn:D.length<=100000)(hf:∀d∈D,fits d.x/\fits d.y)(hL:Dts w.heap.size w lv L):
 Calls prog 42 #[shV s,dv,lv,.int .i64 id] w λe w'=>e= .returned (.int .i64 (b2b (D.findIdx? (nrP s.g L id))))/\Below w.heap.size w w':=by
 obtain⟨fr,hfr⟩:=zE (D.findIdx? (nrP s.g L id));rw[hfr];replace hfr:=Lib.hid hfr;obtain⟨da,dc,rfl,-⟩:=hD.form;go_enter func42,ntmps42;go_upto_region 1 with fail;have k2:=Blk.new w #[.int .i64 s.ax,.int .i64 s.ay,.int .i64 s.st,.int .i64 s.w,.int .i64 s.h,.int .i64 s.g] 28;have hb:Below w.heap.size w (w.alloc (.cells #[.int .i64 s.ax,.int .i64 s.ay,.int .i64 s.st,.int .i64 s.w,.int .i64 s.h,.int .i64 s.g] 28)):=zC;obtain⟨W,hW⟩:=zE (w.alloc (.cells #[.int .i64 s.ax,.int .i64 s.ay,.int .i64 s.st,.int .i64 s.w,.int .i64 s.h,.int .i64 s.g] 28));rw[hW]at k2 hb ⊢;clear hW;obtain⟨B4,hB4⟩:=zE w.heap.size;rw[hB4]at k2 ⊢;have hDW:=hD.up hb;have hLW:Dts W.heap.size W lv L:=(hL.below hb).mono hb.size;go_wp2_with fail;go_loopw [9] (λkk wr=>∃k:Nat,k<=D.length/\kk= .int .i64 (k:Nat)/\Below W.heap.size W wr/\Hid (∀j (hj:j<k) (h:j<D.length),nrP s.g L id D[j]=false)) (λkk _=>D.length-(intOf kk).toNat)
 case atStart=>exact⟨0,Nat.zero_le _,rfl,zR _ _,Lib.hid λj hj=>absurd hj oM⟩
 case round =>
  obtain⟨k,hkl,rfl,hbr,hno⟩:=hrel;by_cases hlt:k<D.length
  ·have hltI:(k:Int)<(D.length:Int):=oM
   have hLr:=hDW.up hbr;obtain⟨b,off,cap,hv,hcap,hbl,hc⟩:=hLr.some_ oM;simp only[Value.slice.injEq,true_and]at hv;obtain⟨rfl,rfl⟩:=hv;have hck:=hc k hlt;have hone:=λc=>d7i (cap:=c) hlt hbl hck (hf _ (List.getElem_mem hlt))
   have hyes:=Lib.hid λh:nrP s.g L id D[k]=true=>b0o hlt h λj hj=>hno.out j hj oM
   have hnx:=Lib.hid λh:nrP s.g L id D[k]=false=>(show ∀j (hj:j<k+1) (h:j<D.length),nrP s.g L id D[j]=false from λj hj h2=>by
    by_cases e:j=k
    ·subst e;exact h
    ·exact hno.out j oM h2)
   obtain⟨d,hd⟩:=zE (D[k]);rw[hd]at hck hyes hnx;simp only[hd]at hone;obtain⟨e2,e3⟩:wr.cell? ⟨b,off+k*4+2,none⟩=some (.int .i64 d.k)/\wr.cell? ⟨b,off+k*4+3,none⟩=some (.int .i64 d.i):=⟨hck 2 (show 2<4 by decide),hck 3 (show 3<4 by decide)⟩;by_cases hown:d.k=3/\d.i=id
   ·have hq1:(d.k==3)=true:=by simpa using hown.1
    have hq2:(d.i==id)=true:=by simpa using hown.2
    have hn2:=Lib.hid (hnx.out (by unfold nrP;rw[decide_eq_true hown.1,decide_eq_true hown.2];rfl));clear hyes hnx hno hck hc hd hLr hone hown;exact yeo
   ·have hle:∀(p:Growth) (c:Nat),Calls prog 100 #[.slice (some ⟨b,off+k*4,none⟩) 1 c,lv] (wr.growBy p) λe w'=>e= .returned (.int .i64 (a4w [d] L))/\Below (wr.growBy p).heap.size (wr.growBy p) w':=λp c =>
     c6p _ _ [d] L _ (((hone c).below (Go.below_growBy wr p)).mono (Go.below_growBy wr p).size) ((((hLW.below hbr).mono hbr.size).below (Go.below_growBy wr p)).mono (Go.below_growBy wr p).size)
    have g5:wr.cell? ⟨B4,5,none⟩=some (.int .i64 s.g):=(k2.below hbr k2.lt).cell 5;have hw1:IntKind.i64.wrap ((k:Int)+1)=(k:Int)+1:=a1m oM oM;have hk1:(k:Int)+1<=(dc:Int):=oM;have hk2:(k:Int)<=(k:Int)+1:=oM;have hk3:((k:Int)+1).toNat=k+1:=oM;have hk4:k+1-k=1:=oM;obtain⟨r,hr⟩:=zE (a4w [d] L);have hbx:=hb.trans (hbr.mono hb.size);have hzx:=hbx.size;have hzr:=hbr.size;rw[hr]at hle;have hnr:nrP s.g L id d=decide (r<s.g):=by
     unfold nrP;rw[hr,show(decide (d.k=3)&&decide (d.i=id))=false by rw[Bool.and_eq_false_iff,decide_eq_false_iff_not,decide_eq_false_iff_not];omega];rfl
    clear hck hc hd hLr hone hno hr;by_cases hg:r<s.g
    ·have hy:=hyes.out (hnr.trans (by simpa using hg))
     rw[hfr.out]at hy;subst hy;clear hfr hyes hnx hnr;by_cases h3:d.k=3
     ·have hq1:(d.k==3)=true:=by simpa using h3
      have hq2:(d.i==id)=false:=by simp;omega
      exact ycj
     ·have hq1:(d.k==3)=false:=by simpa using h3
      exact ycj
    ·have hn2:=Lib.hid (hnx.out (hnr.trans (by simpa using hg)))
     clear hyes hnx hnr;by_cases h3:d.k=3
     ·have hq1:(d.k==3)=true:=by simpa using h3
      have hq2:(d.i==id)=false:=by simp;omega
      exact ybv
     ·have hq1:(d.k==3)=false:=by simpa using h3
      exact ybv
  ·obtain rfl:k=D.length:=oM
   have hge:¬(D.length:Int)<(D.length:Int):=oM;have hf:=hfr.out;rw[b0p λj hj=>hno.out j hj hj]at hf;obtain rfl:fr=none:=hf.symm;clear hfr hno;go_wp2_with fail;go_ret;exact⟨rfl,hB4▸hb.trans (hbr.mono hb.size)⟩
end
section
open Go.RowKit Go.Shelf
attribute [local go_sem] Oper.semAt_some
theorem e0j (w:World):Calls prog 99 #[.int .u8 60] w λe w'=>e= .returned (.agg #[.bool false,.bool false,.bool true,.bool true,.bool true,.bool true])/\Below w.heap.size w w':=by
 have q0:bits BinOp.and IntKind.u8 1 1=1:=by decide +kernel
 have q1:bits BinOp.and IntKind.u8 3 1=1:=by decide +kernel
 have q2:bits BinOp.and IntKind.u8 7 1=1:=by decide +kernel
 have q3:bits BinOp.and IntKind.u8 15 1=1:=by decide +kernel
 have q4:bits BinOp.and IntKind.u8 30 1=0:=by decide +kernel
 have q5:bits BinOp.and IntKind.u8 60 1=0:=by decide +kernel
 go_enter func99,ntmps99;go_wp2_with fail;refine wp_loop_rounds 7 ?_;(iterate 7 (rw[rounds_succ];go_wp2_with fail));exact bodyPost_ret (v:= .agg #[.bool false,.bool false,.bool true,.bool true,.bool true,.bool true]) (by simp[results,results99,go_sem]) rfl ⟨rfl,zC⟩
theorem e0k (w:World):Calls prog 99 #[.int .u8 26] w λe w'=>e= .returned (.agg #[.bool false,.bool true,.bool false,.bool true,.bool true,.bool false])/\Below w.heap.size w w':=by
 have q0:bits BinOp.and IntKind.u8 0 1=0:=by decide +kernel
 have q1:bits BinOp.and IntKind.u8 1 1=1:=by decide +kernel
 have q2:bits BinOp.and IntKind.u8 3 1=1:=by decide +kernel
 have q3:bits BinOp.and IntKind.u8 6 1=0:=by decide +kernel
 have q4:bits BinOp.and IntKind.u8 13 1=1:=by decide +kernel
 have q5:bits BinOp.and IntKind.u8 26 1=0:=by decide +kernel
 go_enter func99,ntmps99;go_wp2_with fail;refine wp_loop_rounds 7 ?_;(iterate 7 (rw[rounds_succ];go_wp2_with fail));exact bodyPost_ret (v:= .agg #[.bool false,.bool true,.bool false,.bool true,.bool true,.bool false]) (by simp[results,results99,go_sem]) rfl ⟨rfl,zC⟩
theorem e1h (w:World):Calls prog 99 #[.int .u8 1] w λe w'=>e= .returned (.agg #[.bool true,.bool false,.bool false,.bool false,.bool false,.bool false])/\Below w.heap.size w w':=by
 have q0:bits BinOp.and IntKind.u8 0 1=0:=by decide +kernel
 have q1:bits BinOp.and IntKind.u8 1 1=1:=by decide +kernel
 go_enter func99,ntmps99;go_wp2_with fail;refine wp_loop_rounds 7 ?_;(iterate 7 (rw[rounds_succ];go_wp2_with fail));exact bodyPost_ret (v:= .agg #[.bool true,.bool false,.bool false,.bool false,.bool false,.bool false]) (by simp[results,results99,go_sem]) rfl ⟨rfl,zC⟩
theorem e1i (w:World):Calls prog 99 #[.int .u8 3] w λe w'=>e= .returned (.agg #[.bool true,.bool true,.bool false,.bool false,.bool false,.bool false])/\Below w.heap.size w w':=by
 have q0:bits BinOp.and IntKind.u8 0 1=0:=by decide +kernel
 have q1:bits BinOp.and IntKind.u8 1 1=1:=by decide +kernel
 have q2:bits BinOp.and IntKind.u8 3 1=1:=by decide +kernel
 go_enter func99,ntmps99;go_wp2_with fail;refine wp_loop_rounds 7 ?_;(iterate 7 (rw[rounds_succ];go_wp2_with fail));exact bodyPost_ret (v:= .agg #[.bool true,.bool true,.bool false,.bool false,.bool false,.bool false]) (by simp[results,results99,go_sem]) rfl ⟨rfl,zC⟩
theorem e1j (w:World):Calls prog 99 #[.int .u8 9] w λe w'=>e= .returned (.agg #[.bool true,.bool false,.bool false,.bool true,.bool false,.bool false])/\Below w.heap.size w w':=by
 have q0:bits BinOp.and IntKind.u8 0 1=0:=by decide +kernel
 have q1:bits BinOp.and IntKind.u8 1 1=1:=by decide +kernel
 have q2:bits BinOp.and IntKind.u8 2 1=0:=by decide +kernel
 have q3:bits BinOp.and IntKind.u8 4 1=0:=by decide +kernel
 have q4:bits BinOp.and IntKind.u8 9 1=1:=by decide +kernel
 go_enter func99,ntmps99;go_wp2_with fail;refine wp_loop_rounds 7 ?_;(iterate 7 (rw[rounds_succ];go_wp2_with fail));exact bodyPost_ret (v:= .agg #[.bool true,.bool false,.bool false,.bool true,.bool false,.bool false]) (by simp[results,results99,go_sem]) rfl ⟨rfl,zC⟩
theorem e0l (w:World):Calls prog 99 #[.int .u8 25] w λe w'=>e= .returned (.agg #[.bool true,.bool false,.bool false,.bool true,.bool true,.bool false])/\Below w.heap.size w w':=by
 have q0:bits BinOp.and IntKind.u8 0 1=0:=by decide +kernel
 have q1:bits BinOp.and IntKind.u8 1 1=1:=by decide +kernel
 have q2:bits BinOp.and IntKind.u8 3 1=1:=by decide +kernel
 have q3:bits BinOp.and IntKind.u8 6 1=0:=by decide +kernel
 have q4:bits BinOp.and IntKind.u8 12 1=0:=by decide +kernel
 have q5:bits BinOp.and IntKind.u8 25 1=1:=by decide +kernel
 go_enter func99,ntmps99;go_wp2_with fail;refine wp_loop_rounds 7 ?_;(iterate 7 (rw[rounds_succ];go_wp2_with fail));exact bodyPost_ret (v:= .agg #[.bool true,.bool false,.bool false,.bool true,.bool true,.bool false]) (by simp[results,results99,go_sem]) rfl ⟨rfl,zC⟩
theorem e0m (w:World):Calls prog 99 #[.int .u8 17] w λe w'=>e= .returned (.agg #[.bool true,.bool false,.bool false,.bool false,.bool true,.bool false])/\Below w.heap.size w w':=by
 have q0:bits BinOp.and IntKind.u8 0 1=0:=by decide +kernel
 have q1:bits BinOp.and IntKind.u8 1 1=1:=by decide +kernel
 have q2:bits BinOp.and IntKind.u8 2 1=0:=by decide +kernel
 have q3:bits BinOp.and IntKind.u8 4 1=0:=by decide +kernel
 have q4:bits BinOp.and IntKind.u8 8 1=0:=by decide +kernel
 have q5:bits BinOp.and IntKind.u8 17 1=1:=by decide +kernel
 go_enter func99,ntmps99;go_wp2_with fail;refine wp_loop_rounds 7 ?_;(iterate 7 (rw[rounds_succ];go_wp2_with fail));exact bodyPost_ret (v:= .agg #[.bool true,.bool false,.bool false,.bool false,.bool true,.bool false]) (by simp[results,results99,go_sem]) rfl ⟨rfl,zC⟩
theorem e0n (w:World):Calls prog 99 #[.int .u8 11] w λe w'=>e= .returned (.agg #[.bool true,.bool true,.bool false,.bool true,.bool false,.bool false])/\Below w.heap.size w w':=by
 have q0:bits BinOp.and IntKind.u8 0 1=0:=by decide +kernel
 have q1:bits BinOp.and IntKind.u8 1 1=1:=by decide +kernel
 have q2:bits BinOp.and IntKind.u8 2 1=0:=by decide +kernel
 have q3:bits BinOp.and IntKind.u8 5 1=1:=by decide +kernel
 have q4:bits BinOp.and IntKind.u8 11 1=1:=by decide +kernel
 go_enter func99,ntmps99;go_wp2_with fail;refine wp_loop_rounds 7 ?_;(iterate 7 (rw[rounds_succ];go_wp2_with fail));exact bodyPost_ret (v:= .agg #[.bool true,.bool true,.bool false,.bool true,.bool false,.bool false]) (by simp[results,results99,go_sem]) rfl ⟨rfl,zC⟩
theorem e0o (w:World):Calls prog 99 #[.int .u8 27] w λe w'=>e= .returned (.agg #[.bool true,.bool true,.bool false,.bool true,.bool true,.bool false])/\Below w.heap.size w w':=by
 have q0:bits BinOp.and IntKind.u8 0 1=0:=by decide +kernel
 have q1:bits BinOp.and IntKind.u8 1 1=1:=by decide +kernel
 have q2:bits BinOp.and IntKind.u8 3 1=1:=by decide +kernel
 have q3:bits BinOp.and IntKind.u8 6 1=0:=by decide +kernel
 have q4:bits BinOp.and IntKind.u8 13 1=1:=by decide +kernel
 have q5:bits BinOp.and IntKind.u8 27 1=1:=by decide +kernel
 go_enter func99,ntmps99;go_wp2_with fail;refine wp_loop_rounds 7 ?_;(iterate 7 (rw[rounds_succ];go_wp2_with fail));exact bodyPost_ret (v:= .agg #[.bool true,.bool true,.bool false,.bool true,.bool true,.bool false]) (by simp[results,results99,go_sem]) rfl ⟨rfl,zC⟩
theorem e0p (w:World):Calls prog 99 #[.int .u8 19] w λe w'=>e= .returned (.agg #[.bool true,.bool true,.bool false,.bool false,.bool true,.bool false])/\Below w.heap.size w w':=by
 have q0:bits BinOp.and IntKind.u8 0 1=0:=by decide +kernel
 have q1:bits BinOp.and IntKind.u8 1 1=1:=by decide +kernel
 have q2:bits BinOp.and IntKind.u8 2 1=0:=by decide +kernel
 have q3:bits BinOp.and IntKind.u8 4 1=0:=by decide +kernel
 have q4:bits BinOp.and IntKind.u8 9 1=1:=by decide +kernel
 have q5:bits BinOp.and IntKind.u8 19 1=1:=by decide +kernel
 go_enter func99,ntmps99;go_wp2_with fail;refine wp_loop_rounds 7 ?_;(iterate 7 (rw[rounds_succ];go_wp2_with fail));exact bodyPost_ret (v:= .agg #[.bool true,.bool true,.bool false,.bool false,.bool true,.bool false]) (by simp[results,results99,go_sem]) rfl ⟨rfl,zC⟩
theorem e0q (w:World):Calls prog 99 #[.int .u8 10] w λe w'=>e= .returned (.agg #[.bool false,.bool true,.bool false,.bool true,.bool false,.bool false])/\Below w.heap.size w w':=by
 have q0:bits BinOp.and IntKind.u8 0 1=0:=by decide +kernel
 have q1:bits BinOp.and IntKind.u8 1 1=1:=by decide +kernel
 have q2:bits BinOp.and IntKind.u8 2 1=0:=by decide +kernel
 have q3:bits BinOp.and IntKind.u8 5 1=1:=by decide +kernel
 have q4:bits BinOp.and IntKind.u8 10 1=0:=by decide +kernel
 go_enter func99,ntmps99;go_wp2_with fail;refine wp_loop_rounds 7 ?_;(iterate 7 (rw[rounds_succ];go_wp2_with fail));exact bodyPost_ret (v:= .agg #[.bool false,.bool true,.bool false,.bool true,.bool false,.bool false]) (by simp[results,results99,go_sem]) rfl ⟨rfl,zC⟩
theorem d9a (c:Nat)(h:c=60\/c=26\/c=1\/c=3\/c=9\/c=25\/c=17\/c=11\/c=27\/c=19\/c=10)(w:World):Calls prog 99 #[.int .u8 c] w λe w'=>e= .returned (.agg #[.bool (c4m c 0),.bool (c4m c 1),.bool (c4m c 2),.bool (c4m c 3),.bool (c4m c 4),.bool (c4m c 5)])/\Below w.heap.size w w':=by
 rcases h with rfl|rfl|rfl|rfl|rfl|rfl|rfl|rfl|rfl|rfl|rfl
 ·exact e0j w
 ·exact e0k w
 ·exact e1h w
 ·exact e1i w
 ·exact e1j w
 ·exact e0l w
 ·exact e0m w
 ·exact e0n w
 ·exact e0o w
 ·exact e0p w
 ·exact e0q w
section
variable {w W W':World}{B:Nat}{v:Value}{l:List UInt8}
theorem OB.appended {g cap:Nat}{b:UInt8}(h:OB w B v l W)(hg:W.grownBy W' v.ownBlock)(hown:W'.ownsRow B 5 1 (.slice (some ⟨g,0,none⟩) (l.length+1) cap) (l.length+1) (d9d l++[.int .u8 (b.toNat:Int)])) :
 OB w B (.slice (some ⟨g,0,none⟩) (l.length+1) cap) (l++[b]) W':=by
 refine⟨?_,h.below.grown hg h.below.size (λr e=>by have:=(h.row.lt _ e).1;have:=h.wb;omega),Nat.le_trans h.lb hg.size,h.wb⟩;rw[List.length_append];simpa[d9d]using hown
end
theorem b7j {X:World}{P:Nat}{c:Value}(h:Blk X P #[c] 5):∀j u,[c][j]? =some u->X.cell? ((⟨P,0,none⟩:Addr).add j)=some u:=λj u hj=>by
 rw[Go.WideShapes.add_plain,Nat.zero_add];match j,hj with
 |0,hj=>exact(h.cell 0).trans hj
 |j+1,hj=>simp at hj
theorem c0l (s:ByteArray):∀n,0<n->(a7z s n).length=n+1
 |1,_=>rfl
 |n+2,_=>by
  unfold a7z;rw[if_neg oM,List.length_append,c0l s (n+1) oM];rfl
theorem c0m (s:ByteArray)(hd:d5v s)(hl:s.size<=1000)(hz:0<s.size)(w:World):Calls prog 97 #[.string s] w λe w'=>e= .returned (.tuple #[.string ⟨(a7z s s.size).toArray⟩,.int .i64 0])/\Below w.heap.size w w':=by
 obtain⟨i0,hi0,hz0,hz1,hz2⟩:=a7i;go_enter func97,ntmps97;go_wp2_with (first
  |(go_at_call 144;refine(b9i s hd oM _).mono ?_;rintro e w'⟨rfl,hb_⟩;obtain⟨p,rfl⟩:=a0b hb_;clear hb_))
 have hO:OB w w.heap.size (.slice none 0 0) (a7z s 0) (w.growBy p):=⟨World.ownsRow_nil _ _ _ _,zC,by simp,yR _⟩;obtain⟨W,hW⟩:=zE (w.growBy p);rw[hW]at hO ⊢;clear hW;obtain⟨B,hB⟩:=zE w.heap.size;rw[hB]at hO;replace hB:=Lib.hid hB;go_loopw [5,6] (λv k wr=>∃n:Nat,n<=s.size/\k= .int .i64 n/\OB w B v (a7z s n) wr) (λ_ k _=>s.size-(intOf k).toNat)
 case atStart=>exact⟨0,Nat.zero_le _,rfl,hO⟩
 case round =>
  clear hO;obtain⟨n,hn,rfl,hO⟩:=hrel;have hol:=b1c s n;by_cases hlt:n<s.size
  ·have hltI:(n:Int)<(s.size:Int):=oM
   have hleI:(n:Int)<=(s.size:Int):=oM;obtain⟨d0,d1⟩:=hd n hlt;have hout:a7z s (n+1)=(if n=0 then [60]else a7z s n)++[(a8g (s[n]'hlt).toNat).toUInt8]:=by
    exact yis
   have hxs:(s.extract n s.size).size=s.size-n:=by rw[ByteArray.size_extract];omega
   have hx0:0<(s.extract n s.size).size:=oM;have hxc:((s.extract n s.size)[0]'hx0).toNat<=57:=by
    rw[ByteArray.getElem_extract];exact d1
   have hcon:∀X,Calls prog 145 #[.string (s.extract n s.size)] X λe w'=>e= .returned (.int .i64 (-1))/\Below X.heap.size X w':=λX=>b0j _ hx0 hxc oM X
   clear hxc hx0 hxs;obtain⟨c,hc⟩:=zE ((s[n]'hlt).toNat);rw[hc]at d0 d1 hout;have hlb:=c8m c;have hub:((a8g c).toUInt8.toNat:Int)=(a8g c:Nat):=by simp;omega
   have hwb:IntKind.u8.wrap ((a8g c:Nat):Int)=(a8g c:Nat):=by
    exact ydf
   by_cases hn0:n=0
   ·subst hn0
    simp only[if_true]at hout;replace hout:=Lib.hid hout;have hcon0:∀X,Calls prog 145 #[.string s] X λe w'=>e= .returned (.int .i64 (-1))/\Below X.heap.size X w':=λX=>b0j s hlt oM hl X
    have hcel:=λX=>b9j s hlt c hc d0 d1 hl X
    replace hc:=Lib.hid hc;go_wp2_with (first
     |(go_at_call 145;first|(with_reducible refine(hcon _).mono ?_)|(with_reducible refine(hcon0 _).mono ?_);rintro e w1⟨rfl,hb1⟩)
     |(go_at_call 148;with_reducible refine(hcel _).mono ?_;rintro e w2⟨B8,rfl,hb2,k8⟩;have e60:=k8.cell 0;have ec:=k8.cell 1))
    have hO2:=((hO.up hb1).up hb2).alloc (.cells #[.int .u8 60] 5);have kP:=Blk.new w2 #[.int .u8 60] 5;have k82:=k8.alloc (.cells #[.int .u8 60] 5);have hrow:=hO2.row;have hle:=hO2.lb;obtain⟨P,hP⟩:=zE w2.heap.size;rw[hP]at kP;have hh0:(a7z s 0).length=0:=rfl;rw[hh0]at hrow;refine wp_loop_rounds 3 ?_;rw[rounds_succ];go_wp2_with (first|(at_builtin;refine wpList_append_lies _ qM _ _ _ qM B 5 i0 _ 1 1 underlying116 hi0 hz0 hz1 hz2 qM oM u5 0 _ qM hrow ⟨P,0,none⟩ 1 1 [.int .u8 60] qM qM (b7j kP) (by simp[Value.oneCell']) oM oK oM hle _ rfl ?_;intro g cap W4 hown hgrow hat hltg)|fail);have hO4:OB w B (.slice (some ⟨g,0,none⟩) 1 cap) [60] W4:=hO2.appended (b:=60) hgrow hown;have k84:=k82.kept hgrow (a0o hO2.row k82 jM);have ec4:=k84.cell 1;clear hown hgrow hat hltg hrow hle hO2 kP k82 hP;have hO5:=hO4.alloc (.cells #[.int .u8 (a8g c:Nat)] 5);have kP:=Blk.new W4 #[.int .u8 (a8g c:Nat)] 5;have hrow:=hO5.row;have hle:=hO5.lb;obtain⟨P5,hP⟩:=zE W4.heap.size;rw[hP]at kP;rw[rounds_succ];go_wp2_with (first|(at_builtin;refine wpList_append_lies _ qM _ _ _ qM B 5 i0 _ 1 1 underlying116 hi0 hz0 hz1 hz2 qM oM (.slice (some ⟨g,0,none⟩) 1 cap) 1 _ qM hrow ⟨P5,0,none⟩ 1 1 [.int .u8 (a8g c:Nat)] qM qM (b7j kP) (by simp[Value.oneCell']) oM oK oM hle _ rfl ?_;intro g6 cap6 W6 hown hgrow hat hltg)|fail);have hO6:OB w B (.slice (some ⟨g6,0,none⟩) 2 cap6) ([60]++[(a8g c).toUInt8]) W6:=hO5.appended (b:=(a8g c).toUInt8) hgrow (by rw[hub];exact hown);clear hown hgrow hat hltg hrow hle hO5 kP hP;rw[rounds_succ];go_wp2_with fail;refine⟨⟨1,oM,rfl,?_⟩,?_⟩
    ·rw[hout.out]
     exact hO6
    ·simp[intOf]
     omega
   ·have hn1:0<n:=oM
    rw[if_neg hn0]at hout;replace hout:=Lib.hid hout;obtain⟨e0,e1⟩:=hd (n-1) oM;have hcel:=λX=>c2g s n hn1 hlt c hc d0 d1 _ rfl e0 e1 hl X
    clear e0 e1;replace hc:=Lib.hid hc;obtain⟨l,hlE⟩:=zE (a7z s n);rw[hlE]at hO hol hout;clear hlE;go_wp2_with (first
     |(go_at_call 145;with_reducible refine(hcon _).mono ?_;rintro e w1⟨rfl,hb1⟩)
     |(go_at_call 148;with_reducible refine(hcel _).mono ?_;rintro e w2⟨B8,rfl,hb2,k8⟩;have ec:=k8.cell 0))
    have hO2:=((hO.up hb1).up hb2).alloc (.cells #[.int .u8 (a8g c:Nat)] 5);have kP:=Blk.new w2 #[.int .u8 (a8g c:Nat)] 5;have hrow:=hO2.row;have hle:=hO2.lb;obtain⟨P,hP⟩:=zE w2.heap.size;rw[hP]at kP;refine wp_loop_rounds 2 ?_;rw[rounds_succ];go_wp2_with (first|(at_builtin;refine wpList_append_lies _ qM _ _ _ qM B 5 i0 _ 1 1 underlying116 hi0 hz0 hz1 hz2 qM oM u5 l.length _ qM hrow ⟨P,0,none⟩ 1 1 [.int .u8 (a8g c:Nat)] qM qM (b7j kP) (by simp[Value.oneCell']) oM oK oM hle _ rfl ?_;intro g6 cap6 W6 hown hgrow hat hltg)|fail);have hO6:OB w B (.slice (some ⟨g6,0,none⟩) (l.length+1) cap6) (l++[(a8g c).toUInt8]) W6:=hO2.appended (b:=(a8g c).toUInt8) hgrow (by rw[hub];exact hown);clear hown hgrow hat hltg hrow hle hO2 kP hP;rw[rounds_succ];go_wp2_with fail;refine⟨⟨n+1,oM,by go_num,?_⟩,?_⟩
    ·rw[hout.out]
     exact hO6
    ·simp[intOf]
     omega
  ·obtain rfl:n=s.size:=oM
   have hln:=c0l s s.size hz;obtain⟨l,hlE⟩:=zE (a7z s s.size);rw[hlE]at hO hol hln;replace hlE:=Lib.hid hlE;have hrow:=hO.row;obtain⟨g,cap,rfl,_,_⟩:=hrow.form oM;have hcv:=λsrc dst e h1 h2 h3=>run_convert_bytes_back (P:=prog) wr src dst e ⟨g,0,none⟩ cap l h1 h2 h3 (λj hj=>by
    have h5:=hrow.cells (g:=g) rfl j (.int .u8 (l[j].toNat:Int)) (by simp[d9d,hj]);exact h5)
   have hcv2:=hcv 116 9 5 underlying116 underlying5 underlying9;clear hcv hrow;rw[hln]at hcv2;have hb:=hO.below;clear hO;go_wp2_with fail;go_ret2;rw[hlE.out];exact⟨rfl,hb⟩
end
section
open Go.RowKit Go.Shelf
attribute [local go_sem] Oper.semAt_some
attribute [local go_sem ↓] Go.wp_at_zero Go.wp_at_succ
theorem d4n (n:Nat)(h:n<10)(w:World):Calls prog 98 #[.int .i64 n] w λe w'=>e= .returned (.string ⟨#[b5t n]⟩)/\Below w.heap.size w w':=by
 have hI:(n:Int)<10:=oM;have h1:IntKind.i64.wrap (48+(n:Int))=48+n:=a0k oM oM;have h2:IntKind.u8.wrap (48+(n:Int))=48+n:=by
  exact ydf
 have hcv:=λ(X:World) src dst e h1 h2 h3 hc=>run_convert_bytes_back (P:=prog) (X.alloc (.cells #[.int .u8 (48+(n:Int))] 5)) src dst e ⟨X.heap.size,0,none⟩ 1 [b5t n] h1 h2 h3 hc
 have hcv2:=λ(X:World)=>hcv X 116 9 5 underlying116 underlying5 underlying9 (λj hj=>by
  have:j=0:=by simp at hj;omega
  subst this;have h9:((b5t n).toNat:Int)=48+n:=by unfold b5t;simp;omega
  show _=some (Value.int .u8 ((b5t n).toNat:Int));rw[h9];exact(Blk.new X #[.int .u8 (48+(n:Int))] 5).cell 0)
 clear hcv;simp only[List.length_cons,List.length_nil,Nat.zero_add]at hcv2;go_enter func98,ntmps98;exact yed
theorem c0n (n m:Nat)(txt:ByteArray)(h0:10<=n)(h:n<=999)(hm:n / 10=m)(hsz:txt.size<=10)(w:World)
 (hrec:∀X,Calls prog 98 #[.int .i64 m] X λe w'=>e= .returned (.string txt)/\Below X.heap.size X w') :
 Calls prog 98 #[.int .i64 n] w λe w'=>e= .returned (.string (txt++⟨#[b5t n]⟩))/\Below w.heap.size w w':=by
 have hI:¬(n:Int)<10:=oM;obtain⟨r,hr⟩:∃r:Nat,n % 10=r:=⟨_,rfl⟩;have hr9:r<10:=oM;have hdv:(n:Int).tdiv 10=(m:Nat):=by rw[Int.tdiv_eq_ediv_of_nonneg oM];omega
 have hrm:(n:Int).tmod 10=(r:Nat):=by rw[Int.tmod_eq_emod_of_nonneg oM];omega
 have hrm2:(n:Int) % 10=(r:Nat):=oM;have h1:IntKind.i64.wrap (48+(r:Int))=48+r:=a0k oM oM;have h1b:IntKind.i64.wrap (m:Int)=m:=a0k oM oM;have h2:IntKind.u8.wrap (48+(r:Int))=48+r:=by
  exact ydf
 have hcv2:∀(X:World) (L:Nat),Blk X L #[.int .u8 (48+(r:Int))] 5->(convert 116 9 (.slice (some ⟨L,0,none⟩) 1 1)).run prog X= .ok (.string ⟨#[b5t n]⟩) X:=λX L hL =>
  run_convert_bytes_back (P:=prog) X 116 9 5 ⟨L,0,none⟩ 1 [b5t n] underlying116 underlying5 underlying9 (λj hj=>by
   have:j=0:=by simp at hj;omega
   subst this;have h9:((b5t n).toNat:Int)=48+r:=by unfold b5t;rw[hr];simp;omega
   show _=some (Value.int .u8 ((b5t n).toNat:Int));rw[h9];exact hL.cell 0)
 have hcat:¬9223372036854775807<txt.size+(⟨#[b5t n]⟩:ByteArray).size:=by show ¬_<txt.size+1;omega
 go_enter func98,ntmps98;go_upto_region 3 with fail;refine Go.wp_region_rel 9 zM zM (λ_ W=>Below w.heap.size w W) (λw w'=>Below w.heap.size w w') (FDec n m r txt) (λ_ _ _ _ h g=>h.kept g) (zR _ _).drew ?_ ?_
 ·clear hcat hm hr
  intro i o hi ho c bb W hc hM hA hD K hK;match i,hi,ho with
  |0,_,ho =>
   exact yhf
  |1,_,ho =>
   cases ho;have f10:=a0a (v:= .int .i64 (n:Nat)) (a0c hD 0 10 zM rfl rfl);go_simp;exact hK (.int .i64 (m:Nat)) W rfl (zR _ _) hM
  |2,_,ho =>
   cases ho;have f11:=a0a (v:= .int .i64 (m:Nat)) (a0c hD 1 11 zM rfl rfl);go_simp;refine(hrec W).mono ?_;rintro e W'⟨rfl,hb⟩;go_simp;exact hK (.string txt) W' rfl hb (hM.trans (hb.mono hM.size))
  |3,_,ho =>
   exact yhf
  |4,_,ho =>
   cases ho;have f13:=a0a (v:= .int .i64 (n:Nat)) (a0c hD 3 13 zM rfl rfl);go_simp;exact hK (.int .i64 (r:Nat)) W rfl (zR _ _) hM
  |5,_,ho =>
   cases ho;have f14:=a0a (v:= .int .i64 (r:Nat)) (a0c hD 4 14 zM rfl rfl);go_simp;exact hK (.int .i64 (48+(r:Nat))) W rfl (zR _ _) hM
  |6,_,ho =>
   cases ho;have f15:=a0a (v:= .int .i64 (48+(r:Nat))) (a0c hD 5 15 zM rfl rfl);go_simp;exact hK (.int .u8 (48+(r:Nat))) W rfl (zR _ _) hM
  |7,_,ho =>
   cases ho;have f16:=a0a (v:= .int .u8 (48+(r:Nat))) (a0c hD 6 16 zM rfl rfl);exact ydw
  |8,_,ho =>
   cases ho;have f17:=a0c hD 7 17 zM rfl rfl;obtain⟨L,h1,h2⟩:=f17;have f17:=a0a h1;have hcv:=hcv2 W L h2;go_simp;exact hK _ W rfl (zR _ _) hM
  |i+9,hi,_=>exact absurd hi oM
 ·intro bb W hM hA hall
  have hP2:bb.eval (.tmp 12)= .string txt:=hall 2 oM _ _ rfl rfl;have hP8:bb.eval (.tmp 18)= .string ⟨#[b5t n]⟩:=hall 8 oM _ _ rfl rfl;have hfr:=hA.frame [T,T,T,T,T,T,T,T,T,T,F,F,F,F,F,F,F,F,F,T] _ rfl zM;clear hall hA;obtain⟨f,hf⟩:∃f:Nat->Value,(λk=>bb.tmps.getD k undef)=f:=⟨_,rfl⟩;have g2:f 12= .string txt:=by rw[<-hf,<-hP2];rfl
  have g8:f 18= .string ⟨#[b5t n]⟩:=by rw[<-hf,<-hP8];rfl
  rw[hf]at hfr;clear hf hP2 hP8;subst hfr;simp only[a1z,g2,g8,Nat.reduceAdd];clear g2 g8;simp only[zU];go_wp2_with fail;go_ret;exact⟨rfl,hM⟩
theorem c7b (n:Nat)(h:n<10):a7c n=⟨#[b5t n]⟩:=by
 unfold a7c;rw[Lib.decDigits,dif_pos h];unfold b5t;rw[Nat.mod_eq_of_lt h]
theorem d0r (n:Nat)(h:¬n<10):a7c n=a7c (n / 10)++⟨#[b5t n]⟩:=by
 apply ByteArray.ext;rw[ByteArray.data_append];unfold a7c;rw[Lib.decDigits,dif_neg h];unfold b5t;simp
theorem b3h :∀(k n:Nat),n<k->n<=999->∀w,Calls prog 98 #[.int .i64 n] w λe w'=>e= .returned (.string (a7c n))/\Below w.heap.size w w'
 |0,n,h,_=>by omega
 |k+1,n,h,h9=>λw=>by
  by_cases hn:n<10
  ·rw[c7b n hn]
   exact d4n n hn w
  ·rw[d0r n hn]
   have hl:=a2z 2 (n / 10) oM;exact c0n n (n / 10) (a7c (n / 10)) oM h9 rfl (by rw[a4z];omega) w (b3h k (n / 10) oM oM)
def d9b (m:Nat)(x y:Int):Bool :=
 match m with
 |0=> !(decide (x=0)&&decide (y=0))
 |1=> !(!decide (x=0)&& !decide (y=0))
 |2=>(decide (x=0)&&decide (y=0))||(!decide (x=0)&& !decide (y=0))
 |3=>true
 |4=>decide (y=0)
 |5=>decide (x=0)
 |_=> !decide (x=0)&& !decide (y=0)
theorem d0s (m t u:Nat)(hm:m<7)(ht:t<3)(hu:u<3):d9b m ((u:Int)-1) ((t:Int)-1)=a4u m (3*t+u):=by
 have h:∀m:Nat,m<7->∀t:Nat,t<3->∀u:Nat,u<3->d9b m ((u:Int)-1) ((t:Int)-1)=a4u m (3*t+u):=by decide +kernel
 exact h m hm t ht u hu
theorem c7c (cls:ByteArray)(x y:Int)(m:Nat)(hm:m<7)(hsum:(b0z cls.data.toList).tmod 7=m)(hcl:cls.size<=1048576)(w:World) :
 Calls prog 96 #[.string cls,.int .i64 x,.int .i64 y] w λe w'=>e= .returned (.bool (d9b m x y))/\w=w':=by
 go_enter func96,ntmps96;go_wp2_with fail;go_loop [7,8] (λs i=>∃n:Nat,n<=cls.size/\i= .int .i64 (n:Nat)/\s= .int .i64 (b0z (cls.data.toList.take n))) (λ_ i=>cls.size-(intOf i).toNat)
 case atStart=>exact⟨0,Nat.zero_le _,rfl,rfl⟩
 case round =>
  obtain⟨n,hn,rfl,rfl⟩:=hrel;by_cases hlt:n<cls.size
  ·have hltI:(n:Int)<(cls.size:Int):=oM
   have hs:=c1j (cls.data.toList.take n);have hsn:=b8c (cls.data.toList.take n) (cls[n]'hlt);rw[<-b4f cls n hlt]at hsn;have h255:=(cls[n]'hlt).toNat_lt;obtain⟨c,hc⟩:=zE ((cls[n]'hlt).toNat);rw[hc]at hsn h255;obtain⟨S,hS⟩:=zE (b0z (cls.data.toList.take n));rw[hS]at hsn hs;rw[hS];have hll:(cls.data.toList.take n).length<=n:=by simp;omega
   have hw1:IntKind.i64.wrap (S+(c:Int))=S+c:=a0k oM oM;have hw2:IntKind.i64.wrap (c:Int)=c:=a0k oM oM;replace hsn:=Lib.hid hsn;clear hS hs hll hsum;go_wp2_with (first|(refine a0j qM 9 _ _ qM cls .i64 (n:Nat) qM qM underlying9 c oM oM (by rw[<-hc];rfl) ?_)|fail);go_round
   case rel=>exact⟨n+1,oM,by go_num,by rw[hsn.out]⟩
   case measure=>simp[intOf];omega
  ·obtain rfl:n=cls.size:=oM
   have hge:¬(cls.size:Int)<(cls.size:Int):=oM;have htk:cls.data.toList.take cls.size=cls.data.toList:=List.take_of_length_le (yR _);rw[htk];obtain⟨S,hS⟩:=zE (b0z cls.data.toList);rw[hS]at hsum ⊢;clear hS htk;rcases(show m=0\/m=1\/m=2\/m=3\/m=4\/m=5\/m=6 from oM)with rfl|rfl|rfl|rfl|rfl|rfl|rfl
   all_goals
    by_cases hx:x=0
    all_goals
     by_cases hy:y=0
     all_goals
      go_wp2_with fail;go_ret;exact⟨by simp[d9b,hx,hy],rfl⟩
end
section
open Go.RowKit Go.Shelf
theorem b7k {α:Type}(f:α->List Value)(s:Nat)(hf:∀x,(f x).length=s):∀(l:List α) (j i:Nat) (h:j<l.length),i<s->(l.flatMap f)[j*s+i]? =(f l[j])[i]?
 |[],j,i,h,_=>by simp at h
 |x::l,0,i,_,hi=>by
  rw[List.flatMap_cons,Nat.zero_mul,Nat.zero_add,List.getElem?_append_left (by rw[hf];exact hi)];rfl
 |x::l,j+1,i,h,hi=>by
  have ih:=b7k f s hf l j i (by simpa using h) hi;rw[List.flatMap_cons,List.getElem?_append_right (by rw[hf,Nat.succ_mul];omega),hf,show(j+1)*s+i-s=j*s+i from by rw[Nat.succ_mul];omega,ih];rfl
theorem b5i {base:Nat}{W:World}{v:Value}{ps:List a0m}(h:W.ownsRow base 26 2 v ps.length (ps.flatMap a5u)):Pts W.heap.size W v ps:=by
 rcases h.2 with⟨rfl,h0⟩|⟨g,cap,cur,rfl,hbase,hgb,_⟩
 ·rw[List.eq_nil_of_length_eq_zero h0]
  exact⟨none,0,rfl,λj hj=>by simp at hj⟩
 ·refine⟨_,cap,rfl,λj hj=>⟨g,0,rfl,(Array.getElem?_eq_some_iff.1 hgb).1,?_,?_⟩⟩
  ·have h1:=b7k a5u 2 (λ_=>rfl) ps j 0 hj oM
   rw[Nat.zero_add];exact(h.cellAt (j*2) oM).trans h1
  ·have h1:=b7k a5u 2 (λ_=>rfl) ps j 1 hj oM
   rw[Nat.zero_add];exact(h.cellAt (j*2+1) oM).trans h1
variable {n₀ K:Nat}{w W W':World}{sv v:Value}{xs:List Int}{ys:List Wy}
variable {B:Nat}{id lvl wt:Int}{lv:Value}{stb:Bool}{ps:List a0m}
end
end Go.Proofs.YtfocdbjceedagaaGreatDoor
