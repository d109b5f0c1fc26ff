/-
  Parts.
-/
import Derived.Test.YtfocdbjceedagaaGreatDoorCbc
set_option linter.unusedVariables false
set_option linter.unusedSimpArgs false
set_option maxHeartbeats 16000000
set_option maxRecDepth 100000
namespace Go.Proofs.YtfocdbjceedagaaGreatDoor
open Tryz
section
open Go Go.RowKit Go.Shelf Go.Lib
variable{b:Bool}{g:Int}{dl:List Dt}{bT:List Int}{ps:List Pc}{i k:Nat}{p:Pc}{pl:Pn}
theorem d3b (hk:k<=ps.length)(x:Int):x∈((ps.take k).map Pc.id).reverse↔∃j,∃h:j<ps.length,j<k/\ps[j].id=x:=by
 rw[List.mem_reverse,List.mem_map];constructor
 ·rintro⟨q,hq,e⟩
  obtain⟨j,hj,rfl⟩:=List.getElem_of_mem hq;rw[List.length_take]at hj;exact⟨j,oM,oM,by rw[List.getElem_take]at e;exact e⟩
 ·rintro⟨j,h,hj,e⟩
  exact⟨ps[j],List.mem_take_iff_getElem.2 ⟨j,oM,rfl⟩,e⟩
theorem d9y (hn:(ps.map Pc.id).Nodup)(hk:k<ps.length):ps[k].id∉((ps.take k).map Pc.id).reverse:=λh=>by
 obtain⟨j,hj,nY,e⟩:=(d3b oM _).1 h;have h2:=List.pairwise_iff_getElem.1 hn j k (by simpa using hj) (by simpa using hk) nY;exact h2 (by simpa using e)
theorem c6g (hg:g<=4){id:Int}(hk:∀b∈dl,b.k=3/\b.i=id){d:Dt}(hd:d.k=3->d.i≠id):dl.any (a8v g d)=decide (a1x [d] dl<g):=by
 rw[Bool.eq_iff_iff,List.any_eq_true,decide_eq_true_eq,b3x hg];constructor
 ·rintro⟨b,hb,h⟩
  exact⟨b,hb,d9c hg h⟩
 ·rintro⟨b,hb,h⟩
  refine⟨b,hb,?_⟩;obtain⟨h1,h2⟩:=hk b hb;obtain⟨h3,h4⟩:=(b3w hg).1 h;unfold a8v;rw[decide_eq_true h3,decide_eq_true h4];by_cases e:d.k=3
  ·simp[h2,hd e]
  ·simp[h1,e]
theorem e1y (hg:g<=4){pf:Pc->Bool×List Dt}{on:Bool}(gS:pf p=(on,dl))(hk:∀b∈dl,b.k=3/\b.i=p.id)(Gq:p.id∉bT){l:Lf}(h0:¬(l.k=0/\l.i=0)):
 b1u g pf pl bT p l=true↔on=true/\(l.k=2\/l.k=3/\l.i∈bT)/\∃d∈pl.dots,d.k=l.k/\d.i=l.i/\a1x [d] dl<g:=by
 unfold b1u;rw[if_neg h0,gS];simp only[Bool.and_eq_true,Bool.or_eq_true,decide_eq_true_eq,List.mem_cons];have rH:(l.k=2\/(l.k=3/\l.i≠p.id)/\(l.i=p.id\/l.i∈bT))↔(l.k=2\/l.k=3/\l.i∈bT):=by
  constructor
  ·rintro(h|⟨⟨h1,h2⟩,h3⟩)
   ·exact .inl h
   ·exact .inr ⟨h1,h3.resolve_left h2⟩
  ·rintro(h|⟨h1,h2⟩)
   ·exact .inl h
   ·exact .inr ⟨⟨h1,λe=>Gq (e▸h2)⟩,.inr h2⟩
 have fF:(l.k=2\/l.k=3/\l.i∈bT)->((a5i g (pl.dots.filter λd=>decide (d.k=l.k)&&decide (d.i=l.i)) dl).isSome=true↔∃d∈pl.dots,d.k=l.k/\d.i=l.i/\a1x [d] dl<g):=λhb=>by
  have hd:∀d:Dt,d.k=l.k->d.i=l.i->d.k=3->d.i≠p.id:=λd h1 h2 h3 e=>by
   rcases hb with h|⟨-,h⟩
   ·omega
   ·exact Gq (e▸h2▸h)
  unfold a5i;rw[List.find?_isSome];constructor
  ·rintro⟨d,hm,h⟩
   rw[List.mem_filter]at hm;obtain⟨hm,h1⟩:=hm;rw[Bool.and_eq_true,decide_eq_true_eq,decide_eq_true_eq]at h1;rw[c6g hg hk (hd d h1.1 h1.2),decide_eq_true_eq]at h;exact⟨d,hm,h1.1,h1.2,h⟩
  ·rintro⟨d,hm,h1,h2,h⟩
   refine⟨d,List.mem_filter.2 ⟨hm,by rw[decide_eq_true h1,decide_eq_true h2];rfl⟩,?_⟩;rw[c6g hg hk (hd d h1 h2),decide_eq_true_eq];exact h
 constructor
 ·rintro⟨⟨h1,h2⟩,h3⟩
  exact⟨h1,rH.1 h2,(fF (rH.1 h2)).1 h3⟩
 ·rintro⟨h1,h2,h3⟩
  exact⟨⟨h1,rH.2 h2⟩,(fF h2).2 h3⟩
theorem e3n {pf:Pc->Bool×List Dt}(hk:k<ps.length)(h:a1m g pf pl ((ps.take k).map Pc.id).reverse ps[k]=none):a1r g pf pl ps=false:=by
 cases he:a1r g pf pl ps
 ·rfl
 ·obtain⟨s,hs⟩:=e2x he (d2t hk)
  rw[h]at hs
  cases hs
theorem d9z {pf:Pc->Bool×List Dt}{s:List Int}(h:a1m g pf pl bT p=some s):s=p.id::bT:=by
 unfold a1m at h;split at h
 ·cases h;rfl
 ·split at h
  ·cases h;rfl
  ·split at h
   ·cases h;rfl
   ·cases h
theorem e1z {pf:Pc->Bool×List Dt}(h:∀k (hk:k<ps.length),k<ps.length->a1m g pf pl ((ps.take k).map Pc.id).reverse ps[k]≠none):a1r g pf pl ps=true:=by
 have h2:∀n,n<=ps.length->(ps.take n).foldlM (a1m g pf pl) []=some ((ps.take n).map Pc.id).reverse:=by
  intro n;induction n with
  |zero=>exact λ_=>rfl
  |succ n ih =>
   intro hn;have hl:n<ps.length:=hn;rw[List.take_succ_eq_append_getElem hl,List.foldlM_append,ih oM]
   cases hc:a1m g pf pl ((ps.take n).map Pc.id).reverse ps[n]with
   |none=>exact absurd hc (h n hl hl)
   |some s =>
    rw[d9z hc]at hc;show(a1m g pf pl _ _ >>= λs=>pure s)=_;rw[hc,List.map_append,List.reverse_append];rfl
 unfold a1r;have:=h2 ps.length (yR _);rw[List.take_length]at this;rw[this];rfl
def Bi (b:Bool)(A:Prop):Prop:=b=true↔A
theorem b8i {Q:Nat->Prop}(i:Nat):(∃j,j<i+1/\Q j)↔(∃j,j<i/\Q j)\/Q i:=by
 constructor
 ·rintro⟨j,hj,h⟩
  by_cases e:j=i
  ·subst e;exact .inr h
  ·exact .inl ⟨j,oM,h⟩
 ·rintro(⟨j,hj,h⟩|h)
  ·exact⟨j,oM,h⟩
  ·exact⟨i,oM,h⟩
theorem d3c {A B:Prop}{Q:Nat->Prop}(h:Bi b (A\/B/\∃j,j<i/\Q j))(hb:b=true\/B/\Q i):Bi true (A\/B/\∃j,j<i+1/\Q j):=by
 refine⟨λ_=> ?_,λ_=>rfl⟩;rw[b8i];rcases hb with hb|⟨h1,h2⟩
 ·rcases h.1 hb with h3|⟨h3,h4⟩
  ·exact .inl h3
  ·exact .inr ⟨h3,.inl h4⟩
 ·exact .inr ⟨h1,.inr h2⟩
theorem d3d {A B:Prop}{Q:Nat->Prop}(h:Bi b (A\/B/\∃j,j<i/\Q j))(hb:b=false)(hq:¬(B/\Q i)):Bi false (A\/B/\∃j,j<i+1/\Q j):=by
 refine⟨λh=>(by cases h),λh2=> ?_⟩;unfold Bi at h;rw[hb]at h;rw[b8i]at h2;rcases h2 with h3|⟨h3,h4|h4⟩
 ·exact h.2 (.inl h3)
 ·exact h.2 (.inr ⟨h3,h4⟩)
 ·exact absurd ⟨h3,h4⟩ hq
theorem d3e {Q:Nat->Prop}(h:Bi b (∃j,j<i/\Q j))(hb:b=true\/Q i):Bi true (∃j,j<i+1/\Q j):=by
 refine⟨λ_=> ?_,λ_=>rfl⟩;rw[b8i];exact hb.imp h.1 id
theorem c4v {Q:Nat->Prop}(h:Bi b (∃j,j<i/\Q j))(hb:b=false)(hq:¬Q i):Bi false (∃j,j<i+1/\Q j):=by
 refine⟨λh=>(by cases h),λh2=> ?_⟩;unfold Bi at h;rw[hb]at h;rw[b8i]at h2;exact h2.elim h.2 λh3=>absurd h3 hq
theorem c1n (s:Sh)(hs:a1h s=0)(mH:s.g<=4)(ev fv wv pv dv kv lv:Vu)(l:List Pc)(pl:Pn)(w:Wd)(hL:Lst plE w.heap.size w pv l)(hF:Frm pv l.length)(hl:l.length<=100)(a7:∀p∈l,PcOk p/\p.cls.size<=1000)
 (hd:Lst dtE w.heap.size w dv pl.dots) (hf:∀d∈pl.dots,fits d.x/\fits d.y) (Vq:pl.dots.length<=100000) (cZ:Lst lfE w.heap.size w lv pl.left) (il:((a0q l).map Pc.id).Nodup) :
 Zc prog 55 #[b3t ev fv wv pv,shV s,a1t dv kv lv] w (.bool (a1r s.g (pfS s) pl (a0q l))):=by
 obtain⟨r,hr⟩:=zE (a1r s.g (pfS s) pl (a0q l));rw[hr];obtain⟨pa,pc,rfl,-⟩:=hL.form;obtain⟨da,dc,rfl,NF⟩:=hd.form;obtain⟨la,lc,rfl,-⟩:=cZ.form;have mQ:=λw4 (hb:Below w.heap.size w w4)=>a7m ev fv wv (.slice pa l.length pc) l w4 (hL.up hb) hF oM
 have fp:(a0q l).length=l.length:=(a0v l).length_eq;have de:∀p∈a0q l,PcOk p/\p.cls.size<=1000:=λp hp=>a7 p ((a0v l).mem_iff.1 hp)
 obtain⟨ps,eT⟩:=zE (a0q l);rw[eT]at fp mQ de hr il;clear eT;have zk:ps.length<=100:=oM;replace fp:=Lib.hid fp;have zo:=cZ.mil;replace hr:=Lib.hid hr;replace il:=Lib.hid il;go_enter func55,ntmps55;go_upto_region 1 with fail;have hB:=Bx3.init w ev fv wv (.slice pa l.length pc) s (.slice da pl.dots.length dc) kv (.slice la pl.left.length lc);obtain⟨W1,aH⟩:=zE (((w.alloc (.cells #[ev,fv,wv,.slice pa l.length pc] 37)).alloc (.cells #[.int .i64 s.ax,.int .i64 s.ay,.int .i64 s.st,.int .i64 s.w,.int .i64 s.h,.int .i64 s.g] 28)).alloc (.cells #[.slice da pl.dots.length dc,kv,.slice la pl.left.length lc] 45));rw[aH]at hB ⊢;clear aH;obtain⟨⟨m0,m1,m2,m3⟩,-,-⟩:=hB.cells;go_wp2_with (first
  |(go_at_call 40;(with_reducible refine(mQ _ hB.bel).mono ?_);rintro e W2⟨v8,rfl,gE,az⟩
    rw[<-fp.out]at gE;obtain⟨a8,c8,rfl,-⟩:=(a0d a4f gE oM).form))
 have aG:=hB.up az;have AU:=a0d a4f gE oM;have ue:=hd.up aG.bel;have iX:=cZ.up aG.bel;clear gE mQ hB az hL hF hd cZ m0 m1 m2 m3;obtain⟨nS,qO⟩:=zE (w.heap.size+1);obtain⟨nP,Gr⟩:=zE (w.heap.size+1+1);rw[Gr,qO];go_loopw [8] (λoP fZ=>∃k:Nat,k<=ps.length/\oP= .int .i64 (k:Nat)/\Hid (∀j (h:j<ps.length),j<k->a1m s.g (pfS s) pl ((ps.take j).map Pc.id).reverse ps[j]≠none)/\Below W2.heap.size W2 fZ) (λoP _=>ps.length-(intOf oP).toNat)
 case atStart=>exact⟨0,Nat.zero_le _,rfl,Lib.hid λj _ h=>absurd h oM,zR _ _⟩
 case round =>
  obtain⟨fZ,gw⟩:∃W,W=wr:=⟨_,rfl⟩;subst gw;obtain⟨k,hk,rfl,hI,aL⟩:=hrel;have vX:=aG.up aL;have mv:=aL.size;by_cases ag:k<ps.length
  ·have aA:(k:Int)<(ps.length:Int):=oM
   have eB:=AU.up aL;obtain⟨b,off,cap,hv,-,gV,hc⟩:=eB.some_ oM;simp only[Value.slice.injEq,true_and]at hv;obtain⟨rfl,rfl⟩:=hv;obtain⟨dY,ie⟩:=de _ (List.getElem_mem ag);have aK:=Lib.hid λ(h:a1m s.g (pfS s) pl ((ps.take k).map Pc.id).reverse ps[k]=none)=>hr.out.symm.trans (e3n ag h)
   have aF:=Lib.hid λ(h:a1m s.g (pfS s) pl ((ps.take k).map Pc.id).reverse ps[k]≠none)=>(show ∀j (h:j<ps.length),j<k+1->a1m s.g (pfS s) pl ((ps.take j).map Pc.id).reverse ps[j]≠none from λj h1 h2=>by
    by_cases e:j=k
    ·subst e;exact h
    ·exact hI.out j h1 oM)
   have cP:=d9y il.out ag;have iM:=Lib.hid (d3b (ps:=ps) (k:=k) oM);obtain⟨bT,rH⟩:=zE (((ps.take k).map Pc.id).reverse);rw[rH]at aK aF cP iM;have aB:=hc k ag;obtain⟨p,hp⟩:=zE (ps[k]);rw[hp]at dY ie aK aF aB cP;obtain⟨id,x,y,cls,nm,wt,ds⟩:=p;have et:=c4p s ⟨id,x,y,cls,nm,wt,ds⟩;have fR:=λW=>b0q s id x y wt ds id cls nm W dY.id ie
   simp only[show plF s x y id cls id=pfS s ⟨id,x,y,cls,nm,wt,ds⟩from rfl]at fR;obtain⟨⟨on,dl⟩,gS⟩:∃r,pfS s ⟨id,x,y,cls,nm,wt,ds⟩=r:=⟨_,rfl⟩;simp only[gS]at fR et;have uk:=Lib.hid λ(lf:Lf) (h0:¬(lf.k=0/\lf.i=0))=>e1y (pl:=pl) mH gS et cP (l:=lf) h0
   have dM:=Lib.hid λ(lf:Lf) (h0:lf.k=0/\lf.i=0)=>(show b1u s.g (pfS s) pl bT ⟨id,x,y,cls,nm,wt,ds⟩ lf= !on by unfold b1u;rw[if_pos h0,gS])
   have au:a1m s.g (pfS s) pl bT ⟨id,x,y,cls,nm,wt,ds⟩=(match(why pl id).bind λk=>pl.left[k]? with|none=>some (id::bT)|some l=>if b1u s.g (pfS s) pl bT ⟨id,x,y,cls,nm,wt,ds⟩ l then some (id::bT)else none):=by
    show(match(why pl id).bind λk=>pl.left[k]? with|none=>some (id::bT)|some l=>if id∈bT then some (id::bT)else if b1u s.g (pfS s) pl bT ⟨id,x,y,cls,nm,wt,ds⟩ l then some (id::bT)else none)=_
    cases (why pl id).bind λk=>pl.left[k]? with
    |none=>rfl
    |some l=>exact if_neg cP
   have gx:=λj (h:why pl id=some j)=>d5q h
   have hle:=λX (hX:Below fZ.heap.size fZ X)=>b4j (.slice da pl.dots.length dc) kv (.slice la pl.left.length lc) pl id X (iX.up (aL.trans (hX.mono mv)))
   obtain⟨o,ho⟩:=zE (why pl id);rw[ho]at au;simp only[ho]at hle gx;replace au:=Lib.hid au;replace gx:=Lib.hid gx;obtain⟨-,⟨eE,eF,eG,eH,eI,eJ⟩,gm,o5,ES⟩:=vX.cells;rw[Gr]at gm o5 ES;obtain⟨dL,e8,ff,gL,gN,gO,gP⟩:=c1s aB;clear ho hp cP hI il gS eE eF eG eH eI eJ e8 ff gL gN gO gP et dY ie
   cases o with
   |none =>
    simp only[a8n]at hle;have bG:=Lib.hid (aF.out (by rw[au.out];simp));clear au gx aK aF uk dM iM hr fR hc aB;go_upto_region 5 with fail;refine e3u λp=> ?_
    go_wp2_with fail;go_roundw
    case rel=>exact⟨k+1,oM,by go_num,bG,aL.trans ((Go.below_growBy _ _).mono mv)⟩
    case measure=>simp[intOf];omega
   |some j =>
    simp only[a8n]at hle;obtain⟨lf,uB,KU⟩:=gx.out j rfl;have fC:¬(j:Int)<0:=oM;have DH:j<pl.left.length:=(List.getElem?_eq_some_iff.1 uB).1;have Ah:(j:Int)<(pl.left.length:Int):=oM;have cF:=au.out;simp only[Option.bind_some,uB]at cF;have fK:=Lib.hid λh:b1u s.g (pfS s) pl bT ⟨id,x,y,cls,nm,wt,ds⟩ lf=true=>aF.out (by rw[cF,if_pos h];simp)
    have fJ:=Lib.hid λh:b1u s.g (pfS s) pl bT ⟨id,x,y,cls,nm,wt,ds⟩ lf=false=>aK.out (by rw[cF,if_neg (by rw[h];decide)])
    have pq:pl.left[j]=lf:=(List.getElem?_eq_some_iff.1 uB).2;replace uk:=Lib.hid (uk.out lf);replace dM:=Lib.hid (dM.out lf);clear au cF uB KU aK aF gx hr;go_upto_region 5 with fail;refine e3u λp=> ?_
    have aZ:=aL.trans ((Go.below_growBy fZ p).mono mv);have uC:=Go.below_growBy fZ p;obtain⟨W5,iq⟩:=zE (fZ.growBy p);rw[iq]at aZ uC ⊢;clear iq hle aL vX gm o5 ES dL eB;have fQ:=aG.up aZ;have AG:=aZ.size;obtain⟨lb,lo,ar,aJ,-,-,eU⟩:=(iX.up aZ).some_ oM;simp only[Value.slice.injEq,true_and]at aJ;obtain⟨rfl,rfl⟩:=aJ;have zp:=eU j DH;rw[pq]at zp;obtain⟨lp,lk,li⟩:=lf;obtain⟨l0,l1,l2⟩:=c1r zp;obtain⟨-,-,q0,q1,q2⟩:=fQ.cells;rw[Gr]at q0 q1 q2;clear eU zp pq;go_upto_region 8 with fail;have kY:=Blk.new W5 #[.int .i64 lp,.int .i64 lk,.int .i64 li] 68;have eV:Below W2.heap.size W2 (W5.alloc (.cells #[.int .i64 lp,.int .i64 lk,.int .i64 li] 68)):=aZ.alloc AG _;have ib:Below fZ.heap.size fZ (W5.alloc (.cells #[.int .i64 lp,.int .i64 lk,.int .i64 li] 68)):=uC.alloc uC.size _;obtain⟨W7,xH⟩:=zE (W5.alloc (.cells #[.int .i64 lp,.int .i64 lk,.int .i64 li] 68));rw[xH]at kY eV ib ⊢;obtain⟨BY,NG⟩:=zE W5.heap.size;rw[NG]at kY ⊢;clear xH NG l0 l1 l2 q0 q1 q2 aZ uC fQ AG;have jd:=aG.up eV;have NH:=eV.size;obtain⟨-,⟨eE,eF,eG,eH,eI,eJ⟩,-⟩:=jd.cells;rw[qO]at eE eF eG eH eI eJ;obtain⟨dL,e8,ff,gL,gN,gO,gP⟩:W7.cell? ⟨b,off+k*7,none⟩=some (.int .i64 id)/\W7.cell? ⟨b,off+k*7+1,none⟩=some (.int .i64 x)/\W7.cell? ⟨b,off+k*7+2,none⟩=some (.int .i64 y)/\W7.cell? ⟨b,off+k*7+3,none⟩=some (.string cls)/\W7.cell? ⟨b,off+k*7+4,none⟩=some (.string nm)/\W7.cell? ⟨b,off+k*7+5,none⟩=some (.int .i64 wt)/\W7.cell? ⟨b,off+k*7+6,none⟩=some (.int .i64 ds):=⟨a0e ib (aB 0 jM),a0e ib (aB 1 jM),a0e ib (aB 2 jM),a0e ib (aB 3 jM),a0e ib (aB 4 jM),a0e ib (aB 5 jM),a0e ib (aB 6 jM)⟩;replace fR:=λW (_:Below W7.heap.size W7 W)=>fR W
    refine Go.wp_region_rel 15 zM zM (λ_ W=>Below W7.heap.size W7 W) (λw w'=>Below w.heap.size w w') (FPm nS k b off c8 ps s id x y wt ds cls nm on dl) (λ_ _ _ _ h g=>h.kept g) (zR _ _).drew ?step8 ?tail8
    case step8 =>
     clear fK fJ uk dM jd kY eV ib aB hc iM ue iX;intro i o hi ho c bb W hc hM hA hD K hK;match i,hi,ho with
     |0,_,ho =>
      exact yjf
     |1,_,ho =>
      exact ycb
     |2,_,ho =>
      exact yke
     |3,_,ho =>
      cases ho;have f41:=a0a (v:= .slice (some ⟨b,off,none⟩) ps.length c8) (a0b hD 1 41 zM rfl rfl);have f42:=a0a (v:= .int .i64 (k:Nat)) (a0b hD 2 42 zM rfl rfl);exact ybf
     |4,_,ho =>
      cases ho;have f43:=a0a (v:= .pointer (some ⟨b,off+k*7,none⟩)) (a0b hD 3 43 zM rfl rfl);exact yas
     |5,_,ho =>
      exact ycb
     |6,_,ho =>
      exact yke
     |7,_,ho =>
      cases ho;have f45:=a0a (v:= .slice (some ⟨b,off,none⟩) ps.length c8) (a0b hD 5 45 zM rfl rfl);have f46:=a0a (v:= .int .i64 (k:Nat)) (a0b hD 6 46 zM rfl rfl);exact ybf
     |8,_,ho =>
      cases ho;have f47:=a0a (v:= .pointer (some ⟨b,off+k*7,none⟩)) (a0b hD 7 47 zM rfl rfl);exact ybf
     |9,_,ho =>
      cases ho;have f48:=a0a (v:= .pointer (some ⟨b,off+k*7,none⟩)) (a0b hD 8 48 zM rfl rfl);exact yeg
     |10,_,ho =>
      cases ho;have f40:=a0a (v:= .agg #[.int .i64 s.ax,.int .i64 s.ay,.int .i64 s.st,.int .i64 s.w,.int .i64 s.h,.int .i64 s.g]) (a0b hD 0 40 zM rfl rfl);have f44:=a0a (v:= .agg #[.int .i64 id,.int .i64 x,.int .i64 y,.string cls,.string nm,.int .i64 wt,.int .i64 ds]) (a0b hD 4 44 zM rfl rfl);have f49:=a0a (v:= .int .i64 id) (a0b hD 9 49 zM rfl rfl);exact yda
     |11,_,ho =>
      cases ho;have f50:=a0b hD 10 50 zM rfl rfl;obtain⟨u,h1,h2⟩:=f50;have Vr:=a0a h1;exact yht
     |12,_,ho =>
      cases ho;have f39:=a0b hD 11 39 zM rfl rfl;obtain⟨u,h1,h2⟩:=f39;have SP:=a0a h1;exact yfc
     |13,_,ho =>
      cases ho;have f39:=a0b hD 11 39 zM rfl rfl;obtain⟨v,h1,h2⟩:=f39;have SP:=a0a h1;exact yka
     |14,_,ho =>
      cases ho;have f51:=a0b hD 12 51 zM rfl rfl;obtain⟨u,h1,h2⟩:=f51;have H6:=a0a h1;exact yfc
     |i+15,hi,_=>exact absurd hi oM
    case tail8 =>
     intro bb W9 hM hA ah;obtain⟨xv,h11,gB,mC,ma⟩:=(show ∃u,bb.eval (.tmp 11)=u/\Lst dtE W9.heap.size W9 u dl/\Frm u dl.length/\Dts W9.heap.size W9 u dl from ah 14 oM _ _ rfl rfl);have h52:bb.eval (.tmp 52)= .bool on:=ah 13 oM _ _ rfl rfl;have aC:=hA.frame (rT 11 (rF 1 (rT 27 (rF 14 (rT 86 ([])))))) _ rfl zM;clear ah hA;obtain⟨f,og⟩:=zDt bb;have vW:f 52= .bool on:=by rw[<-og,<-h52];rfl
     have g11:f 11=xv:=by rw[<-og,<-h11];rfl
     rw[og]at aC;clear og h52 h11;subst aC;simp only[rT,rF,a2d,vW,g11,Nat.reduceAdd];clear vW g11;simp only[zU];have br:=eV.trans (hM.mono NH);have zr:=ib.trans (hM.mono ib.size);have DJ:=br.size;have cn:=aG.up br;have AV:=kY.below hM kY.lt;have oV:=cn.bel;clear dL e8 ff gL gN gO gP eE eF eG eH eI eJ fR hM eV ib jd kY gB mC NH;have y1:W9.cell? ⟨BY,1,none⟩=some (.int .i64 lk):=AV.cell 1;have y2:W9.cell? ⟨BY,2,none⟩=some (.int .i64 li):=AV.cell 2;obtain⟨bz,rI⟩:=zE (decide (lk=0/\li=0));go_upto_region 9 with fail;go_cut [60] (λv wx=>v= .bool bz/\W9=wx)
     case first =>
      by_cases h1:lk=0
      ·have a1:(lk==0)=true:=by simpa using h1
       by_cases h2:li=0
       ·have a2:(li==0)=true:=by simpa using h2
        obtain rfl:bz=true:=by rw[<-rI];exact decide_eq_true ⟨h1,h2⟩
        clear rI h1 h2;exact yhe
       ·have a2:(li==0)=false:=by simpa using h2
        obtain rfl:bz=false:=by rw[<-rI];exact decide_eq_false λh=>h2 h.2
        clear rI h1 h2;exact yhe
      ·have a1:(lk==0)=false:=by simpa using h1
       obtain rfl:bz=false:=by rw[<-rI];exact decide_eq_false λh=>h1 h.1
       clear rI h1;exact yhe
     case rest =>
      obtain⟨rfl,IE⟩:=hcut;subst IE
      cases bz
      rotate_left 1
      ·have h0:=of_decide_eq_true rI
       have uD:=dM.out h0
       cases on
       ·have bG:=Lib.hid (fK.out uD)
        clear fK fJ uk dM uD h0 rI hc aB iM;go_wp2_with fail;go_roundw
        case rel=>exact⟨k+1,oM,by go_num,bG,br⟩
        case measure=>simp[intOf];omega
       ·obtain rfl:r=false:=fJ.out uD
        clear fK fJ uk dM uD h0 rI hc aB iM;go_wp2_with fail;go_ret;exact⟨rfl,oV⟩
      have h0:=of_decide_eq_false rI;have uD:=Lib.hid (uk.out h0);clear uk dM h0 rI;obtain⟨b2,az⟩:=zE ((lk==2));go_wp2_with fail;have KV:=Lib.hid (show Bi b2 (lk=2\/lk=3/\∃j,j<0/\∃h:j<ps.length,ps[j].id=li)from by
       unfold Bi;rw[<-az,beq_iff_eq];exact⟨.inl,λh=>h.elim (λh=>h) λ⟨_,j,hj,_⟩=>absurd hj oM⟩)
      clear az;go_loopw [13,14] (λbv iv wx=>∃(i:Nat) (fb:Bool),i<=k/\iv= .int .i64 (i:Nat)/\bv= .bool fb/\Hid (Bi fb (lk=2\/lk=3/\∃j,j<i/\∃h:j<ps.length,ps[j].id=li))/\Below W9.heap.size W9 wx) (λ_ iv _=>k-(intOf iv).toNat)
      case atStart=>exact⟨0,b2,Nat.zero_le _,rfl,rfl,KV,zR _ _⟩
      case round =>
       obtain⟨wx,gw⟩:∃W,W=wr:=⟨_,rfl⟩;subst gw;obtain⟨i,fb,hi,rfl,rfl,sN,bA⟩:=hrel;have ic:=bA.size;clear y1 y2;have zt:=AV.below bA AV.lt;by_cases wZ:i<k
       ·have EP:(i:Int)<(k:Int):=oM
        have AF:(i:Int)<(ps.length:Int):=oM;have rk:i<ps.length:=oM;have e0:wx.cell? ⟨b,off+i*7,none⟩=some (.int .i64 (ps[i]).id):=a0e (zr.trans (bA.mono zr.size)) (hc i oM 0 (show 0<7 by decide));have y1:wx.cell? ⟨BY,1,none⟩=some (.int .i64 lk):=zt.cell 1;have y2:wx.cell? ⟨BY,2,none⟩=some (.int .i64 li):=zt.cell 2;have hQ:=Lib.hid (show(∃h:i<ps.length,ps[i].id=li)↔ps[i].id=li from⟨λ⟨_,h⟩=>h,λh=>⟨rk,h⟩⟩);obtain⟨qi,jU⟩:=zE (ps[i].id);rw[jU]at e0;replace jU:=Lib.hid jU;clear hc aB fK fJ uD iM
        cases fb
        ·by_cases h3:lk=3
         ·have a1:(lk==3)=true:=by simpa using h3
          by_cases h4:qi=li
          ·have a2:(qi==li)=true:=by simpa using h4
           have lT:=Lib.hid (d3c sN.out (.inr ⟨h3,hQ.out.2 (jU.out.trans h4)⟩));clear sN h3 h4 hQ jU;exact ybn
          ·have a2:(qi==li)=false:=by simpa using h4
           have lT:=Lib.hid (d3d sN.out rfl (λh=>h4 (jU.out.symm.trans (hQ.out.1 h.2))));clear sN h3 h4 hQ jU;exact ybn
         ·have a1:(lk==3)=false:=by simpa using h3
          have lT:=Lib.hid (d3d sN.out rfl (λh=>h3 h.1));clear sN h3 hQ jU;exact ybn
        ·have lT:=Lib.hid (d3c sN.out (.inl rfl))
         clear sN hQ jU;exact ybn
       ·obtain rfl:k=i:=oM
        have aY:¬(k:Int)<(k:Int):=oM;have sd:=sN;have vh:=Lib.hid (show Bi fb (lk=2\/lk=3/\li∈bT)from by
         unfold Bi;rw[show _↔_ from sd.out,iM.out];constructor
         ·rintro(h|⟨h,j,h1,h2,h3⟩)
          ·exact .inl h
          ·exact .inr ⟨h,j,h2,h1,h3⟩
         ·rintro(h|⟨h,j,h1,h2,h3⟩)
          ·exact .inl h
          ·exact .inr ⟨h,j,h2,h1,h3⟩)
        have fT:=Lib.hid (show Bi false (∃j,j<0/\∃h:j<pl.dots.length,(pl.dots[j].k=lk/\pl.dots[j].i=li/\a1x [pl.dots[j]] dl<s.g))from⟨λh=>(by cases h),λ⟨j,hj,_⟩=>absurd hj oM⟩);clear sd sN iM hc aB zr;go_wp2_with fail;go_loopw [15,16] (λcv iv wx=>∃(i:Nat) (fc:Bool),i<=pl.dots.length/\iv= .int .i64 (i:Nat)/\cv= .bool fc/\Hid (Bi fc (∃j,j<i/\∃h:j<pl.dots.length,(pl.dots[j].k=lk/\pl.dots[j].i=li/\a1x [pl.dots[j]] dl<s.g)))/\Below W9.heap.size W9 wx) (λ_ iv _=>pl.dots.length-(intOf iv).toNat)
        case atStart=>exact⟨0,false,Nat.zero_le _,rfl,rfl,fT,bA⟩
        case round =>
         clear bA ic zt fT;obtain⟨wx,gw⟩:∃W,W=wr:=⟨_,rfl⟩;subst gw;obtain⟨i,fc,hi,rfl,rfl,p8,bA⟩:=hrel;have ic:=bA.size;have uE:=br.trans (bA.mono DJ);have qh:=aG.up uE;obtain⟨-,⟨-,-,-,-,-,g5⟩,q0,-,-⟩:=qh.cells;rw[qO]at g5;rw[Gr]at q0;have BV:=qh.bel;have SQ:=BV.size;by_cases eL:i<pl.dots.length
         ·have nI:(i:Int)<(pl.dots.length:Int):=oM
          have zt:=AV.below bA AV.lt;have y1:wx.cell? ⟨BY,1,none⟩=some (.int .i64 lk):=zt.cell 1;have y2:wx.cell? ⟨BY,2,none⟩=some (.int .i64 li):=zt.cell 2;obtain⟨db,dO,KS,mL,-,Mp,vP⟩:=(ue.up uE).some_ oM;simp only[Value.slice.injEq,true_and]at mL;obtain⟨rfl,rfl⟩:=mL;have vL:=vP i eL;have lF:=λc=>b8c (cap:=c) eL Mp vL (hf _ (List.getElem_mem eL))
          have hQ:=Lib.hid (show(∃h:i<pl.dots.length,(pl.dots[i].k=lk/\pl.dots[i].i=li/\a1x [pl.dots[i]] dl<s.g))↔(pl.dots[i].k=lk/\pl.dots[i].i=li/\a1x [pl.dots[i]] dl<s.g)from⟨λ⟨_,h⟩=>h,λh=>⟨eL,h⟩⟩);obtain⟨d,j7⟩:=zE (pl.dots[i]);rw[j7]at vL;simp only[j7]at lF;have hle:∀(G:Growth) (c:Nat),Zc prog 100 #[.slice (some ⟨db,dO+i*4,none⟩) 1 c,xv] (wx.growBy G) (.int .i64 (a1x [d] dl)):=λG c =>
           b0m _ _ [d] dl _ (((lF c).below (Go.below_growBy wx G)).mono (Go.below_growBy wx G).size) ((((ma.below bA).mono ic).below (Go.below_growBy wx G)).mono (Go.below_growBy wx G).size)
          have d2:wx.cell? ⟨db,dO+i*4+2,none⟩=some (.int .i64 d.k):=vL 2 (show 2<4 by decide);have d3:wx.cell? ⟨db,dO+i*4+3,none⟩=some (.int .i64 d.i):=vL 3 (show 3<4 by decide);have aE:IntKind.i64.wrap ((i:Int)+1)=(i:Int)+1:=a1i oM oM;have jR:(i:Int)+1<=(dc:Int):=oM;have eD:(i:Int)<=(i:Int)+1:=oM;have pB:((i:Int)+1).toNat=i+1:=oM;have Km:i+1-i=1:=oM;obtain⟨r2,bB⟩:=zE (a1x [d] dl);rw[bB]at hle;have hE:=Lib.hid (show(pl.dots[i].k=lk/\pl.dots[i].i=li/\a1x [pl.dots[i]] dl<s.g)↔(d.k=lk/\d.i=li/\r2<s.g)from by rw[j7,bB]);clear vP vL lF j7 bB vh fK fJ uD ma qh uE zt;obtain⟨dx,dy,dk,di⟩:=d;simp only at d2 d3
          cases fc
          ·by_cases h1:dk=lk
           ·have a1:(dk==lk)=true:=by simpa using h1
            by_cases h2:di=li
            ·have a2:(di==li)=true:=by simpa using h2
             by_cases h3:r2<s.g
             ·have SR:decide (r2<s.g)=true:=decide_eq_true h3
              have mr:=Lib.hid (d3e p8.out (.inr (hQ.out.2 (hE.out.2 ⟨h1,h2,h3⟩))));exact yhq
             ·have SR:decide (r2<s.g)=false:=decide_eq_false h3
              have mr:=Lib.hid (c4v p8.out rfl λh=>h3 (hE.out.1 (hQ.out.1 h)).2.2);exact yhq
            ·have a2:(di==li)=false:=by simpa using h2
             have mr:=Lib.hid (c4v p8.out rfl λh=>h2 (hE.out.1 (hQ.out.1 h)).2.1);clear p8 hQ hE h1 h2;exact yhl
           ·have a1:(dk==lk)=false:=by simpa using h1
            have mr:=Lib.hid (c4v p8.out rfl λh=>h1 (hE.out.1 (hQ.out.1 h)).1);clear p8 hQ hE h1;exact yhl
          ·have mr:=Lib.hid (d3e p8.out (.inl rfl))
           clear p8 hQ hE;exact yhl
         ·obtain rfl:i=pl.dots.length:=oM
          have HT:¬(pl.dots.length:Int)<(pl.dots.length:Int):=oM;have EU:=Lib.hid (show Bi fc (∃d∈pl.dots,d.k=lk/\d.i=li/\a1x [d] dl<s.g)from by
           unfold Bi;rw[show _↔_ from p8.out];constructor
           ·rintro⟨j,-,h,h1⟩
            exact⟨_,List.getElem_mem h,h1⟩
           ·rintro⟨d,hd,h1⟩
            obtain⟨j,hj,rfl⟩:=List.getElem_of_mem hd;exact⟨j,hj,hj,h1⟩)
          have hv:=Lib.hid (show b1u s.g (pfS s) pl bT ⟨id,x,y,cls,nm,wt,ds⟩ ⟨lp,lk,li⟩=(on&&fb&&fc)from by
           rw[Bool.eq_iff_iff,uD.out,Bool.and_eq_true,Bool.and_eq_true,show fb=true↔_ from vh.out,show fc=true↔_ from EU.out];exact⟨λ⟨h1,h2,h3⟩=>⟨⟨h1,h2⟩,h3⟩,λ⟨⟨h1,h2⟩,h3⟩=>⟨h1,h2,h3⟩⟩)
          clear EU p8 vh uD g5 ma
          cases on
          ·exact ydp
          ·cases fb
           ·exact ydp
           ·cases fc
            ·exact ydp
            ·have bG:=Lib.hid (fK.out hv.out)
             clear fK fJ hv;go_wp2_with fail;go_roundw
             case rel=>exact⟨k+1,oM,by go_num,bG,uE⟩
             case measure=>simp[intOf];omega
  ·obtain rfl:k=ps.length:=oM
   have aY:¬(ps.length:Int)<(ps.length:Int):=oM;obtain rfl:r=true:=hr.out.symm.trans (e1z hI.out);have gR:=vX.bel;clear hr hI;exact ygd
end
end Go.Proofs.YtfocdbjceedagaaGreatDoor
