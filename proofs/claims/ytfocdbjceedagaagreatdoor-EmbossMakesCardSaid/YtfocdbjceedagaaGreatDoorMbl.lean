/-
  Parts.
-/
import Derived.Test.YtfocdbjceedagaaGreatDoorMbk
set_option linter.unusedVariables false
set_option linter.unusedSimpArgs false
set_option maxHeartbeats 4000000
set_option maxRecDepth 100000
namespace Go.Proofs.YtfocdbjceedagaaGreatDoor
open Tryz
section
open Go Go.RowKit Go.Shelf Go.Lib
attribute [local go_sem] Oper.semAt_some
attribute [local go_sem ↓] Go.wp_at_zero Go.wp_at_succ
variable{n:Nat}{s:Sh}
theorem Lst.mil {α:Type}{E:El α}{W:World}{v:Value}{l:List α}(h:Lst E n W v l):l.length<=1000000:=by
 obtain⟨_,_,_,_,h1,_⟩:=h;exact h1
theorem c7j (v1 v2:Value)(l:List Dt)(w:World)(h1:Lst dtE w.heap.size w v1 l)(h2:Lst dtE w.heap.size w v2 l):
 Calls prog 26 #[v1,v2] w λe w'=>e= .returned (.bool true)/\Below w.heap.size w w':=by
 have hml:=h1.mil;obtain⟨xa1,xc1,rfl,-⟩:=h1.form;obtain⟨xa2,xc2,rfl,-⟩:=h2.form;go_enter func26,ntmps26;go_wp2_with fail;go_loopw [5] (λi wr=>∃k:Nat,k<=l.length/\i= .int .i64 k/\Below w.heap.size w wr) (λi _=>l.length-(intOf i).toNat)
 case atStart=>exact⟨0,Nat.zero_le _,rfl,zR _ _⟩
 case round =>
  obtain⟨k,hk,rfl,hB⟩:=hrel;have hsz:=hB.size;by_cases hlt:k<l.length
  ·have hltI:(k:Int)<(l.length:Int):=oM
   obtain⟨b1,o1,cap1,hv1,-,-,hc1⟩:=(h1.below hB).some_ oM;obtain⟨b2,o2,cap2,hv2,-,-,hc2⟩:=(h2.below hB).some_ oM;simp only[Value.slice.injEq,true_and]at hv1 hv2;obtain⟨rfl,rfl⟩:=hv1;obtain⟨rfl,rfl⟩:=hv2;have e1:=hc1 k hlt;have e2:=hc2 k hlt;obtain⟨x,hx⟩:=zE (l[k]);rw[hx]at e1 e2;obtain⟨x0,x1,x2,x3⟩:wr.cell? ⟨b1,o1+k*4,none⟩=some (.int .i64 x.x)/\wr.cell? ⟨b1,o1+k*4+1,none⟩=some (.int .i64 x.y)/\wr.cell? ⟨b1,o1+k*4+2,none⟩=some (.int .i64 x.k)/\wr.cell? ⟨b1,o1+k*4+3,none⟩=some (.int .i64 x.i):=⟨e1 0 (show 0<4 by decide),e1 1 (show 1<4 by decide),e1 2 (show 2<4 by decide),e1 3 (show 3<4 by decide)⟩;obtain⟨y0,y1,y2,y3⟩:wr.cell? ⟨b2,o2+k*4,none⟩=some (.int .i64 x.x)/\wr.cell? ⟨b2,o2+k*4+1,none⟩=some (.int .i64 x.y)/\wr.cell? ⟨b2,o2+k*4+2,none⟩=some (.int .i64 x.k)/\wr.cell? ⟨b2,o2+k*4+3,none⟩=some (.int .i64 x.i):=⟨e2 0 (show 0<4 by decide),e2 1 (show 1<4 by decide),e2 2 (show 2<4 by decide),e2 3 (show 3<4 by decide)⟩;clear hc1 hc2 e1 e2 hx;go_wp2_with fail;first|with_reducible refine a0e zM zM ?_|with_reducible refine a0g zM zM ?_
   repeat(first|go_big_quiet_step (fail)|quiet_step (fail))
   refine wpQuiet_nil ?_;intro _ hw_;obtain⟨p,hw_⟩:=hw_;subst hw_;go_wp2_with fail;go_roundw
   case rel=>exact⟨k+1,oM,by go_num,Go.below_growBy' hB hsz _⟩
   case measure=>simp[intOf];omega
  ·obtain rfl:k=l.length:=oM
   have hge:¬(l.length:Int)<(l.length:Int):=oM;exact yjl
theorem c7k (v1 v2:Value)(pl:Pn)(w:World)(h1:PlanIn w v1 pl)(h2:PlanIn w v2 pl):
 Calls prog 12 #[v1,v2] w λe w'=>e= .returned (.bool true)/\Below w.heap.size w w':=by
 obtain⟨dv1,kv1,lv1,rfl,⟨hdt1,-⟩,⟨hkeys1,-⟩,hleft1,-⟩:=h1.ex;obtain⟨dv2,kv2,lv2,rfl,⟨hdt2,-⟩,⟨hkeys2,-⟩,hleft2,-⟩:=h2.ex;have hmk:=hkeys1.mil;have hmf:=hleft1.mil;obtain⟨ka1,kc1,rfl,-⟩:=hkeys1.form;obtain⟨ka2,kc2,rfl,-⟩:=hkeys2.form;obtain⟨la1,lc1,rfl,-⟩:=hleft1.form;obtain⟨la2,lc2,rfl,-⟩:=hleft2.form;obtain⟨xa1,xc1,rfl,-⟩:=hdt1.form;obtain⟨xa2,xc2,rfl,-⟩:=hdt2.form;have hsm:=λX (h:Below w.heap.size w X)=>c7j _ _ pl.dots X (hdt1.up h) (hdt2.up h)
 clear hdt1 hdt2 h1 h2;go_enter func12,ntmps12;go_upto_region 1 with fail;have k2:=(Blk.new w #[.slice xa1 pl.dots.length xc1,.slice ka1 pl.keys.length kc1,.slice la1 pl.left.length lc1] 45).alloc (.cells #[.slice xa2 pl.dots.length xc2,.slice ka2 pl.keys.length kc2,.slice la2 pl.left.length lc2] 45);have k3:=Blk.new (w.alloc (.cells #[.slice xa1 pl.dots.length xc1,.slice ka1 pl.keys.length kc1,.slice la1 pl.left.length lc1] 45)) #[.slice xa2 pl.dots.length xc2,.slice ka2 pl.keys.length kc2,.slice la2 pl.left.length lc2] 45;have hb:Below w.heap.size w ((w.alloc (.cells #[.slice xa1 pl.dots.length xc1,.slice ka1 pl.keys.length kc1,.slice la1 pl.left.length lc1] 45)).alloc (.cells #[.slice xa2 pl.dots.length xc2,.slice ka2 pl.keys.length kc2,.slice la2 pl.left.length lc2] 45)):=((zR _ _).alloc (yR _) _).alloc vM _;obtain⟨W,hW⟩:=zE ((w.alloc (.cells #[.slice xa1 pl.dots.length xc1,.slice ka1 pl.keys.length kc1,.slice la1 pl.left.length lc1] 45)).alloc (.cells #[.slice xa2 pl.dots.length xc2,.slice ka2 pl.keys.length kc2,.slice la2 pl.left.length lc2] 45));simp only[World.size_alloc]at k3;rw[hW]at k2 k3 hb ⊢;clear hW;obtain⟨B2,hB2⟩:=zE w.heap.size;rw[hB2]at k2 k3 ⊢;obtain⟨dv1,hdv1⟩:=zE (Value.slice xa1 pl.dots.length xc1);obtain⟨dv2,hdv2⟩:=zE (Value.slice xa2 pl.dots.length xc2);rw[hdv1]at k2 hsm;rw[hdv2]at k3 hsm;obtain⟨m0,m1,m2⟩:=zN3 k2;obtain⟨n0,n1,n2⟩:=zN3 k3;go_upto_region 2 with(first
  |(go_at_call 26;(with_reducible refine(hsm _ hb).mono ?_);rintro e W1⟨rfl,hb1⟩))
 have hbW:=hb.trans (hb1.mono hb.size);replace k2:=k2.below hb1 k2.lt;replace k3:=k3.below hb1 k3.lt;clear m0 m1 m2 n0 n1 n2 hb hb1 hsm hdv1 hdv2;obtain⟨m1,m2⟩:W1.cell? ⟨B2,1,none⟩=some (.slice ka1 pl.keys.length kc1)/\W1.cell? ⟨B2,2,none⟩=some (.slice la1 pl.left.length lc1):=⟨k2.cell 1,k2.cell 2⟩;obtain⟨n1,n2⟩:W1.cell? ⟨B2+1,1,none⟩=some (.slice ka2 pl.keys.length kc2)/\W1.cell? ⟨B2+1,2,none⟩=some (.slice la2 pl.left.length lc2):=⟨k3.cell 1,k3.cell 2⟩;go_wp2_with fail;clear m1 m2 n1 n2;go_loopw [6] (λkk wr=>∃k:Nat,k<=pl.keys.length/\kk= .int .i64 (k:Nat)/\Below w.heap.size w wr/\Blk wr B2 #[dv1,.slice ka1 pl.keys.length kc1,.slice la1 pl.left.length lc1] 45/\Blk wr (B2+1) #[dv2,.slice ka2 pl.keys.length kc2,.slice la2 pl.left.length lc2] 45) (λkk _=>pl.keys.length-(intOf kk).toNat)
 case atStart=>exact⟨0,Nat.zero_le _,rfl,hbW,k2,k3⟩
 case round =>
  clear k2 k3 hbW;obtain⟨k,hk,rfl,hbW,k2,k3⟩:=hrel;have c1:wr.cell? ⟨B2,1,none⟩=some (.slice ka1 pl.keys.length kc1):=k2.cell 1;have d1:wr.cell? ⟨B2+1,1,none⟩=some (.slice ka2 pl.keys.length kc2):=k3.cell 1;have hzw:=hbW.size;by_cases hlt:k<pl.keys.length
  ·have hltI:(k:Int)<(pl.keys.length:Int):=oM
   obtain⟨b1,o1,cap1,hv1,-,-,hc1⟩:=(hkeys1.below hbW).some_ oM;obtain⟨b2,o2,cap2,hv2,-,-,hc2⟩:=(hkeys2.below hbW).some_ oM;simp only[Value.slice.injEq,true_and]at hv1 hv2;obtain⟨rfl,rfl⟩:=hv1;obtain⟨rfl,rfl⟩:=hv2;have e1:=hc1 k hlt;have e2:=hc2 k hlt;obtain⟨x,hx⟩:=zE (pl.keys[k]);rw[hx]at e1 e2;obtain⟨x0,x1,x2⟩:wr.cell? ⟨b1,o1+k*3,none⟩=some (.int .i64 x.n)/\wr.cell? ⟨b1,o1+k*3+1,none⟩=some (.int .i64 x.p)/\wr.cell? ⟨b1,o1+k*3+2,none⟩=some (.string x.c):=⟨e1 0 (show 0<3 by decide),e1 1 (show 1<3 by decide),e1 2 (show 2<3 by decide)⟩;obtain⟨y0,y1,y2⟩:wr.cell? ⟨b2,o2+k*3,none⟩=some (.int .i64 x.n)/\wr.cell? ⟨b2,o2+k*3+1,none⟩=some (.int .i64 x.p)/\wr.cell? ⟨b2,o2+k*3+2,none⟩=some (.string x.c):=⟨e2 0 (show 0<3 by decide),e2 1 (show 1<3 by decide),e2 2 (show 2<3 by decide)⟩;exact yce
  ·obtain rfl:k=pl.keys.length:=oM
   have hge:¬(pl.keys.length:Int)<(pl.keys.length:Int):=oM;go_wp2_with fail;clear c1 d1 hzw hge;go_loopw [7] (λkk wr=>∃k:Nat,k<=pl.left.length/\kk= .int .i64 (k:Nat)/\Below w.heap.size w wr/\Blk wr B2 #[dv1,.slice ka1 pl.keys.length kc1,.slice la1 pl.left.length lc1] 45/\Blk wr (B2+1) #[dv2,.slice ka2 pl.keys.length kc2,.slice la2 pl.left.length lc2] 45) (λkk _=>pl.left.length-(intOf kk).toNat)
   case atStart=>exact⟨0,Nat.zero_le _,rfl,hbW,k2,k3⟩
   case round =>
    clear k2 k3 hbW;obtain⟨k,hk,rfl,hbW,k2,k3⟩:=hrel;have c1:wr.cell? ⟨B2,2,none⟩=some (.slice la1 pl.left.length lc1):=k2.cell 2;have d1:wr.cell? ⟨B2+1,2,none⟩=some (.slice la2 pl.left.length lc2):=k3.cell 2;have hzw:=hbW.size;by_cases hlt:k<pl.left.length
    ·have hltI:(k:Int)<(pl.left.length:Int):=oM
     obtain⟨b1,o1,cap1,hv1,-,-,hc1⟩:=(hleft1.below hbW).some_ oM;obtain⟨b2,o2,cap2,hv2,-,-,hc2⟩:=(hleft2.below hbW).some_ oM;simp only[Value.slice.injEq,true_and]at hv1 hv2;obtain⟨rfl,rfl⟩:=hv1;obtain⟨rfl,rfl⟩:=hv2;have e1:=hc1 k hlt;have e2:=hc2 k hlt;obtain⟨x,hx⟩:=zE (pl.left[k]);rw[hx]at e1 e2;obtain⟨x0,x1,x2⟩:wr.cell? ⟨b1,o1+k*3,none⟩=some (.int .i64 x.p)/\wr.cell? ⟨b1,o1+k*3+1,none⟩=some (.int .i64 x.k)/\wr.cell? ⟨b1,o1+k*3+2,none⟩=some (.int .i64 x.i):=⟨e1 0 (show 0<3 by decide),e1 1 (show 1<3 by decide),e1 2 (show 2<3 by decide)⟩;obtain⟨y0,y1,y2⟩:wr.cell? ⟨b2,o2+k*3,none⟩=some (.int .i64 x.p)/\wr.cell? ⟨b2,o2+k*3+1,none⟩=some (.int .i64 x.k)/\wr.cell? ⟨b2,o2+k*3+2,none⟩=some (.int .i64 x.i):=⟨e2 0 (show 0<3 by decide),e2 1 (show 1<3 by decide),e2 2 (show 2<3 by decide)⟩;exact yce
    ·obtain rfl:k=pl.left.length:=oM
     have hge:¬(pl.left.length:Int)<(pl.left.length:Int):=oM;go_wp2_with fail;go_ret;exact⟨rfl,hB2▸hbW⟩
theorem d1e (s:Sh)(ev fv wv:Value)(pa:Option Addr)(n pc:Nat)(c:Int)(hc:a3c s n=c)(hs:c≠0)(w:World):
 Calls prog 11 #[b7q ev fv wv (.slice pa n pc),shV s] w λe w'=>e= .returned (.tuple #[a3s (.slice none 0 0) (.slice none 0 0) (.slice none 0 0),.int .i64 c])/\Below w.heap.size w w':=by
 have hBg:=λw=>b5h s ev fv wv pa n pc w
 rw[hc]at hBg;have hc0:(c != 0)=true:=by simpa using hs
 clear hc hs;go_enter func11,ntmps11;go_wp2_with (first
  |(go_at_call 38;(with_reducible refine(hBg _).mono ?_);rintro e W1⟨rfl,hb1⟩
    have k3:=(Blk.new ((w.alloc (.cells #[ev,fv,wv,.slice pa n pc] 37)).alloc (.cells #[.int .i64 s.ax,.int .i64 s.ay,.int .i64 s.st,.int .i64 s.w,.int .i64 s.h,.int .i64 s.g] 28)) #[.slice none 0 0,.slice none 0 0,.slice none 0 0] 45).below hb1 vM;have hbw:Below w.heap.size w W1:=((((zR _ _).alloc (yR _) _).alloc vM _).alloc uM _).trans (hb1.mono uM);simp only[World.size_alloc]at k3;have r0:W1.cell? ⟨w.heap.size+1+1,0,none⟩=some (.slice none 0 0):=k3.cell 0;have r1:W1.cell? ⟨w.heap.size+1+1,1,none⟩=some (.slice none 0 0):=k3.cell 1;have r2:W1.cell? ⟨w.heap.size+1+1,2,none⟩=some (.slice none 0 0):=k3.cell 2;have z0:=k3.frozen 0;have z1:=k3.frozen 1;have z2:=k3.frozen 2;have hz:=hbw.size))
 exact ycw
theorem e1l (h:a1g s=0):s.g<=4:=by
 unfold a1g at h;split at h
 ·rename_i h1
  rw[Bool.and_eq_true]at h1;have h2:=h1.2;unfold inR at h2;rw[Bool.and_eq_true]at h2;exact of_decide_eq_true h2.2
 ·omega
def c0r (s:Sh)(ws:List Wy)(l:List Pc):Pn:=if a3c s l.length=0 then a2k s ws (a0t l)else⟨[],[],[]⟩
theorem a7y (h:a3c s n=0):a1g s=0/\n<=80:=by
 unfold a3c at h;by_cases h1:a1g s=0
 ·rw[if_pos h1]at h
  refine⟨h1,?_⟩;by_cases h2:80<n
  ·rw[if_pos h2]at h
   omega
  ·omega
 ·rw[if_neg h1]at h
  exact absurd h h1
theorem d9c (s:Sh)(f0:fits s.ax)(f1:fits s.ay)(ev fv wv pv:Value)(l:List Pc)(ws:List Wy)(w:World)(hM:MapOd w wv pv l ws)(hPow:∀W,Below w.heap.size w W->Pow W):
 Calls prog 10 #[b7q ev fv wv pv,shV s] w λe w'=>∃v,e= .returned (.tuple #[v,.int .i64 (a3c s l.length)])/\PlanIn w' v (c0r s ws l)/\Below w.heap.size w w':=by
 obtain⟨pa,pc,rfl,-⟩:=hM.p.form;unfold c0r;by_cases h:a3c s l.length=0
 ·obtain⟨hs,hl⟩:=a7y h
  rw[if_pos h,h];exact b4z s f0 f1 hs ev fv wv (.slice pa l.length pc) l ws w hM.p hM.frm hl hM.ok hM.w (λy hy=>(hM.wo y hy).1) hM.wl (λy hy=>(hM.wo y hy).2) hPow
 ·rw[if_neg h]
  refine(d4y s f0 f1 ev fv wv pa l.length pc _ rfl h w).mono ?_;rintro e w'⟨rfl,h2⟩;exact⟨_,rfl,c5d w',h2⟩
theorem d7r (s:Sh)(ev fv wv pv:Value)(l:List Pc)(ws:List Wy)(w:World)(hM:MapOd w wv pv l ws):
 Calls prog 11 #[b7q ev fv wv pv,shV s] w λe w'=>∃v,e= .returned (.tuple #[v,.int .i64 (a3c s l.length)])/\PlanIn w' v (c0r s ws l)/\Below w.heap.size w w':=by
 obtain⟨pa,pc,rfl,-⟩:=hM.p.form;unfold c0r;by_cases h:a3c s l.length=0
 ·obtain⟨hs,hl⟩:=a7y h
  rw[if_pos h,h];exact d1d s hs (e1l hs) ev fv wv (.slice pa l.length pc) l ws w hM.p hM.frm hl hM.ok hM.w hM.wl (λy hy=>(hM.wo y hy).2)
 ·rw[if_neg h]
  refine(d1e s ev fv wv pa l.length pc _ rfl h w).mono ?_;rintro e w'⟨rfl,h2⟩;exact⟨_,rfl,c5d w',h2⟩
end
section
open Go.RowKit Go.Shelf
section
variable {P:Program}{W:World}{r:Reach}{base:Nat}{t:TypeId}{v:Value}
theorem a2l (ht:P.underlying t=some (.int .i64))(h:Cell.okWide P W r base t v):∃x,v= .int .i64 x/\fits x:=by
 exact yew
theorem b7m (ht:P.underlying t=some (.int .u8))(h:Cell.okWide P W r base t v):∃x,v= .int .u8 x/\0<=x/\x<=255:=by
 exact yew
theorem c3x (hrow:(match P.underlying t with|some (.struct _)|some (.array _ _)=>true|_=>false)=true)(h:Value.okWide P W r base t v):∃cs,v= .agg cs/\cs.size=P.cellsOf t/\Row.okWide P W r base t cs:=by
 unfold Value.okWide at h;split at hrow <;> simp_all
end
section
variable {H:Type}{enc:TypeId×Value->H}{P:Program}{W:World}{base:Nat}{sp:Nat->Bool}{hd:Bool}{t e:TypeId}{v:Value}
theorem c0s {ts:List TypeId}{vs:List Value}{ds:List (DataW H)}{ps:List MemPlace}(h:DataW.TrodAll enc P W base sp hd (t::ts) (v::vs) ds ps):∃d p,DataW.Trod enc P W base sp hd t v d p:=by
 cases ds with
 |nil=>exact h.elim
 |cons d ds=>obtain⟨p,q,h1,-,-⟩:=h;exact⟨d,p,h1⟩
theorem d4z {t2:TypeId}{fuel:Nat}{x:DataW H×List MemPlace}(ht2:P.underlying t2=some (.slice t))(hc2:P.cellsOf t=1)(ht:P.underlying t=some (.slice e))(he:P.underlying e=some (.int .i64))(hc:P.cellsOf e=1)
 (h:DataW.trod enc P W base sp hd fuel t2 [v]=some x):∃rows,Mat W.heap.size W v rows/\b6b rows.length:=by
 have hv:∀cs,v≠.agg cs:=by
  rcases Go.Deep.open_slice1 ht2 hc2 h with⟨h1,-⟩|⟨a,len,cap,m,n,V,D,Pl,h1,-⟩
  ·obtain rfl:v= .slice none 0 0:=by simpa using h1
   intro cs hcs
   cases hcs
  ·obtain rfl:v= .slice (some a) len cap:=by simpa using h1
   intro cs hcs
   cases hcs
 have hcs:v.cells.toList=[v]:=by cases v <;> first|rfl|exact absurd rfl (hv _)
 exact d6o ht2 hc2 ht he hc hv ⟨x.1,x.2,fuel,by rw[hcs];exact h⟩
end
theorem d5a {H:Type}{enc:TypeId×Value->H}{W:World}{r:Reach}{base base2:Nat}{sp:Nat->Bool}{hd:Bool}{v:Value}(h:Value.okWide prog W r base 30 v)(ht:∃d p,DataW.Trod enc prog W base2 sp hd 30 v d p) :
 ∃rv rows q0 q1 q2 b0 b1 b2 b3 raw,v= .agg (b0u rv q0 q1 q2 b0 b1 b2 b3 raw)/\Mat W.heap.size W rv rows/\(fits q0/\fits q1/\fits q2)/\((0<=b0/\b0<=255)/\(0<=b1/\b1<=255)/\(0<=b2/\b2<=255)/\(0<=b3/\b3<=255))/\fits raw.ax/\fits raw.ay:=by
 obtain⟨cs,rfl,hn,ts,hts,-,hcell⟩:=c3x zM h;obtain rfl:ts=[22,3,3,3,5,5,5,5,3,3,3,3,3,3]:=Option.some.inj (hts.symm.trans zM);have hn':cs.size=14:=hn.trans zM;obtain⟨l⟩:=cs;match l,hn',hcell,ht with
 |[c0,c1,c2,c3,c4,c5,c6,c7,c8,c9,c10,c11,c12,c13],_,hcell,⟨d,p,fuel,ht⟩ =>
  have hfs:prog.underlying 30=some (.struct (prog.fieldsOf 30)):=by kernel_rfl
  obtain⟨xs,n,-,-,hl,hxl,hf'⟩:=DataW.trod_struct hfs ht;have hf0:(prog.fieldsOf 30)[0]?.map (λf=>(f.offset,f.type))=some (0,22):=by kernel_rfl
  obtain⟨f,hfe,hft⟩:=Option.map_eq_some_iff.1 hf0;simp only[Prod.mk.injEq]at hft;have h0':=hf' 0 f hfe;rw[hft.1,hft.2,show prog.cellsOf 22=1 from by kernel_rfl]at h0';have hsz:(prog.fieldsOf 30).size=4:=by kernel_rfl
  rw[List.getElem?_eq_getElem (by rw[hxl,hsz];decide)]at h0';obtain⟨rows,hM,-⟩:=d4z (t2:=22) (t:=51) underlying22 zM underlying51 underlying3 zM (v:=c0) h0';clear h0' hf' hxl hl ht hfs hfe hf0 hft hsz h;obtain⟨u0,k0,g0⟩:=hcell 0 c0 rfl;obtain⟨u1,k1,g1⟩:=hcell 1 c1 rfl;obtain⟨u2,k2,g2⟩:=hcell 2 c2 rfl;obtain⟨u3,k3,g3⟩:=hcell 3 c3 rfl;obtain⟨u4,k4,g4⟩:=hcell 4 c4 rfl;obtain⟨u5,k5,g5⟩:=hcell 5 c5 rfl;obtain⟨u6,k6,g6⟩:=hcell 6 c6 rfl;obtain⟨u7,k7,g7⟩:=hcell 7 c7 rfl;obtain⟨u8,k8,g8⟩:=hcell 8 c8 rfl;obtain⟨u9,k9,g9⟩:=hcell 9 c9 rfl;obtain⟨u10,k10,g10⟩:=hcell 10 c10 rfl;obtain⟨u11,k11,g11⟩:=hcell 11 c11 rfl;obtain⟨u12,k12,g12⟩:=hcell 12 c12 rfl;obtain⟨u13,k13,g13⟩:=hcell 13 c13 rfl
  cases k0;cases k1;cases k2;cases k3;cases k4;cases k5;cases k6;cases k7;cases k8;cases k9;cases k10;cases k11;cases k12;cases k13;obtain⟨q0,rfl,f1⟩:=a2l underlying3 g1;obtain⟨q1,rfl,f2⟩:=a2l underlying3 g2;obtain⟨q2,rfl,f3⟩:=a2l underlying3 g3;obtain⟨b0,rfl,f4⟩:=b7m underlying5 g4;obtain⟨b1,rfl,f5⟩:=b7m underlying5 g5;obtain⟨b2,rfl,f6⟩:=b7m underlying5 g6;obtain⟨b3,rfl,f7⟩:=b7m underlying5 g7;obtain⟨r8,rfl,f8⟩:=a2l underlying3 g8;obtain⟨r9,rfl,f9⟩:=a2l underlying3 g9;obtain⟨r10,rfl,f10⟩:=a2l underlying3 g10;obtain⟨r11,rfl,f11⟩:=a2l underlying3 g11;obtain⟨r12,rfl,f12⟩:=a2l underlying3 g12;obtain⟨r13,rfl,f13⟩:=a2l underlying3 g13;exact⟨c0,rows,q0,q1,q2,b0,b1,b2,b3,⟨r8,r9,r10,r11,r12,r13⟩,rfl,hM,⟨f1,f2,f3⟩,⟨f4,f5,f6,f7⟩,f8,f9⟩
theorem laidMet.tl {P:Program}{W:World}{a:String×DataW Unit}{rest:List (String×DataW Unit)}(h:laidMet P (a::rest) W):laidMet P rest W:=by
 obtain⟨ps,hl,hn,hb⟩:=h;obtain⟨n,d⟩:=a;obtain⟨g,t,cs,fuel,p,q,-,-,-,-,hr,rfl⟩:=hl;exact⟨q,hr,(List.nodup_append.1 hn).2.1,λb off hm=>hb b off (List.mem_append_right _ hm)⟩
end
end Go.Proofs.YtfocdbjceedagaaGreatDoor
