/-
  Parts.
-/
import Derived.Test.YtfocdbjceedagaaGreatDoorCbb
set_option linter.unusedVariables false
set_option linter.unusedSimpArgs false
set_option maxHeartbeats 8000000
set_option maxRecDepth 100000
namespace Go.Proofs.YtfocdbjceedagaaGreatDoor
open Tryz
section
open Go Go.RowKit Go.Shelf Go.Lib
variable{g:Int}{D wd:List Dt}{ps:List Pc}{k n:Nat}{pl:Pn}{s:Sh}{dv ev fv kv lv pv wv:Vu}{W W' w:Wd}
theorem Lst.mil {α:Type}{E:El α}{v:Vu}{l:List α}(h:Lst E n W v l):l.length<=1000000:=by
 obtain⟨_,_,_,_,h1,_⟩:=h;exact h1
theorem d2r (s:Sh)(ev fv wv:Vu)(pa:Option Addr)(n pc:Nat)(c:Int)(hc:a2m s n=c)(hs:c≠0)(w:Wd):
 Zc prog 11 #[b3t ev fv wv (.slice pa n pc),shV s] w (.tuple #[a1t (.slice none 0 0) (.slice none 0 0) (.slice none 0 0),.int .i64 c]):=by
 have fV:=λw=>a7n s ev fv wv pa n pc w
 rw[hc]at fV;have fT:(c != 0)=true:=by simpa using hs
 clear hc hs;go_enter func11,ntmps11;go_wp2_with (first
  |(go_at_call 38;(with_reducible refine(fV _).mono ?_);rintro e W1⟨rfl,aw⟩
    have k3:=(Blk.new ((w.alloc (.cells #[ev,fv,wv,.slice pa n pc] 37)).alloc (.cells #[.int .i64 s.ax,.int .i64 s.ay,.int .i64 s.st,.int .i64 s.w,.int .i64 s.h,.int .i64 s.g] 28)) #[.slice none 0 0,.slice none 0 0,.slice none 0 0] 45).below aw vM;have gR:Below w.heap.size w W1:=((((zR _ _).alloc (yR _) _).alloc vM _).alloc uM _).trans (aw.mono uM);simp only[World.size_alloc]at k3;have r0:W1.cell? ⟨w.heap.size+1+1,0,none⟩=some (.slice none 0 0):=k3.cell 0;have r1:W1.cell? ⟨w.heap.size+1+1,1,none⟩=some (.slice none 0 0):=k3.cell 1;have r2:W1.cell? ⟨w.heap.size+1+1,2,none⟩=some (.slice none 0 0):=k3.cell 2;have z0:=k3.frozen 0;have z1:=k3.frozen 1;have z2:=k3.frozen 2;have hz:=gR.size))
 have lP:=((a0g W1 (w.heap.size+1+1) 0 (.slice none 0 0)).trans (a0g _ (w.heap.size+1+1) 1 (.slice none 0 0))).trans (a0g _ (w.heap.size+1+1) 2 (.slice none 0 0));have kA:=((k3.set 0 (.slice none 0 0)).set 1 (.slice none 0 0)).set 2 (.slice none 0 0);exact bodyPost_ret (a1n qM _ _ _ 45 _ (0,0) _ qM kA underlying45 qM zM) rfl ⟨rfl,gR.grown lP hz λr e=>by cases e;omega⟩
theorem e4d (h:a1h s=0):s.g<=4:=by
 unfold a1h at h;split at h
 ·rename_i h1
  rw[Bool.and_eq_true]at h1;have h2:=h1.2;unfold inR at h2;rw[Bool.and_eq_true]at h2;exact of_decide_eq_true h2.2
 ·omega
def c8p (s:Sh)(ws:List Wy)(l:List Pc):Pn:=if a2m s l.length=0 then a2n s ws (a0q l)else⟨[],[],[]⟩
theorem a6g (h:a2m s n=0):a1h s=0/\n<=80:=by
 unfold a2m at h;by_cases h1:a1h s=0
 ·rw[if_pos h1]at h
  refine⟨h1,?_⟩;by_cases h2:80<n
  ·rw[if_pos h2]at h
   omega
  ·omega
 ·rw[if_neg h1]at h
  exact absurd h h1
theorem d2s (s:Sh)(ev fv wv pv:Vu)(l:List Pc)(ws:List Wy)(w:Wd)(hM:MapOd w wv pv l ws):
 Calls prog 11 #[b3t ev fv wv pv,shV s] w λe w'=>∃v,e= .returned (.tuple #[v,.int .i64 (a2m s l.length)])/\PlanIn w' v (c8p s ws l)/\Below w.heap.size w w':=by
 obtain⟨pa,pc,rfl,-⟩:=hM.p.form;unfold c8p;by_cases h:a2m s l.length=0
 ·obtain⟨hs,hl⟩:=a6g h
  rw[if_pos h,h];exact d2q s hs (e4d hs) ev fv wv (.slice pa l.length pc) l ws w hM.p hM.frm hl hM.ok hM.w hM.wl (λy hy=>(hM.wo y hy).2)
 ·rw[if_neg h]
  refine(d2r s ev fv wv pa l.length pc _ rfl h w).mono ?_;rintro e w'⟨rfl,h2⟩;exact⟨_,rfl,d6w w',h2⟩
theorem b4j (dv kv lv:Vu)(pl:Pn)(id:Int)(w:Wd)(hl:Lst lfE w.heap.size w lv pl.left):
 Zc prog 111 #[a1t dv kv lv,.int .i64 id] w (.int .i64 (a8n (why pl id))):=by
 obtain⟨fr,aC⟩:=zE (why pl id);rw[aC];unfold why at aC;obtain⟨L,hL⟩:=zE pl.left;rw[hL]at aC hl;clear hL;replace aC:=Lib.hid aC;have hn:=hl.mil;obtain⟨la,lc,rfl,-⟩:=hl.form;go_enter func111,ntmps111;go_upto_region 1 with fail;have k2:=Blk.new w #[dv,kv,.slice la L.length lc] 45;have hb:Below w.heap.size w (w.alloc (.cells #[dv,kv,.slice la L.length lc] 45)):=zC;obtain⟨W,hW⟩:=zE (w.alloc (.cells #[dv,kv,.slice la L.length lc] 45));rw[hW]at k2 hb ⊢;clear hW;obtain⟨B2,aG⟩:=zE w.heap.size;rw[aG]at k2 ⊢;have iX:=hl.up hb;have m2:W.cell? ⟨B2,2,none⟩=some (.slice la L.length lc):=k2.cell 2;go_wp2_with fail;go_loopw [5] (λkk wr=>∃k:Nat,k<=L.length/\kk= .int .i64 (k:Nat)/\Below W.heap.size W wr/\Hid (∀j (hj:j<k) (h:j<L.length),decide (L[j].p=id)=false)) (λkk _=>L.length-(intOf kk).toNat)
 case atStart=>exact yiu
 case round =>
  obtain⟨k,aR,rfl,aL,aK⟩:=hrel;clear m2;have m2:wr.cell? ⟨B2,2,none⟩=some (.slice la L.length lc):=(k2.below aL k2.lt).cell 2;by_cases ag:k<L.length
  ·have aA:(k:Int)<(L.length:Int):=oM
   have eB:=iX.up aL;obtain⟨b,off,cap,hv,-,gV,hc⟩:=eB.some_ oM;simp only[Value.slice.injEq,true_and]at hv;obtain⟨rfl,rfl⟩:=hv;have aB:=hc k ag;have aF:=Lib.hid λh:decide (L[k].p=id)=true=>a7f (f:=λx=>decide (x.p=id)) ag h λj hj=>aK.out j hj oM
   have bG:=Lib.hid λh:decide (L[k].p=id)=false=>(show ∀j (hj:j<k+1) (h:j<L.length),decide (L[j].p=id)=false from λj hj h2=>by
    by_cases e:j=k
    ·subst e;exact h
    ·exact aK.out j oM h2)
   obtain⟨d,hd⟩:=zE (L[k]);rw[hd]at aB aF bG;have e0:wr.cell? ⟨b,off+k*3,none⟩=some (.int .i64 d.p):=aB 0 (show 0<3 by decide);clear aB hc hd eB;by_cases hx:d.p=id
   ·have uK:(d.p==id)=true:=by simpa using hx
    have hf:=aC.out;rw[aF.out (by simp[hx])]at hf;subst hf;clear aC aF bG hx aK;exact yhk
   ·have uK:(d.p==id)=false:=by simpa using hx
    have iP:=Lib.hid (bG.out (by simp[hx]));clear aF bG hx aK;exact ydj
  ·obtain rfl:k=L.length:=oM
   have aY:¬(L.length:Int)<(L.length:Int):=oM;have hf:=aC.out;rw[a7g λj hj=>aK.out j hj hj]at hf;obtain rfl:fr=none:=hf.symm;clear aC aK;exact yhk
theorem c1m (v1 v2:Vu)(a b:List Dt)(w:Wd)(h1:Lst dtE w.heap.size w v1 a)(h2:Lst dtE w.heap.size w v2 b):
 Zc prog 26 #[v1,v2] w (.bool (decide (a=b))):=by
 have Nl:=h1.mil;have xE:=h2.mil;obtain⟨Nt,Nu,rfl,-⟩:=h1.form;obtain⟨Nv,Nw,rfl,-⟩:=h2.form;obtain⟨r,hr⟩:=zE (decide (a=b));rw[hr];replace hr:=Lib.hid hr;by_cases hl:a.length=b.length
 ·have Je:((a.length:Int)==(b.length:Int))=true:=by simp[hl]
  go_enter func26,ntmps26;go_wp2_with fail;go_loopw [5] (λi wr=>∃k:Nat,k<=a.length/\i= .int .i64 k/\Below w.heap.size w wr/\Hid (a.take k=b.take k))
   (λi _=>a.length-(intOf i).toNat)
  case atStart=>exact⟨0,Nat.zero_le _,rfl,zR _ _,Lib.hid rfl⟩
  case round =>
   obtain⟨k,hk,rfl,hB,eS⟩:=hrel;have bu:=hB.size;by_cases ag:k<a.length
   ·have aA:(k:Int)<(a.length:Int):=oM
    have nI:(k:Int)<(b.length:Int):=oM;obtain⟨b1,o1,yO,iI,-,-,cj⟩:=(h1.below hB).some_ oM;obtain⟨b2,o2,ke,ew,-,-,bK⟩:=(h2.below hB).some_ oM;simp only[Value.slice.injEq,true_and]at iI ew;obtain⟨rfl,rfl⟩:=iI;obtain⟨rfl,rfl⟩:=ew;have e1:=cj k ag;have e2:=bK k oM;have AK:=List.take_add_one (l:=a) (i:=k);have EO:=List.take_add_one (l:=b) (i:=k);rw[List.getElem?_eq_getElem ag]at AK;rw[List.getElem?_eq_getElem (show k<b.length by omega)]at EO;have Gl:a[k]? =some a[k]:=List.getElem?_eq_getElem ag;have ik:b[k]? =some b[k]:=List.getElem?_eq_getElem oM;obtain⟨d,hd⟩:=zE (a[k]);obtain⟨e,he⟩:=zE (b[k]);rw[hd]at e1 AK Gl;rw[he]at e2 EO ik;clear hd he cj bK h1 h2;obtain⟨dx,dy,dk,di⟩:=d;obtain⟨ex,ey,ek,ei⟩:=e;obtain⟨x0,x1,x2,x3⟩:=d7q e1;obtain⟨y0,y1,y2,y3⟩:=d7q e2;clear e1 e2;replace AK:=Lib.hid AK;replace EO:=Lib.hid EO;replace Gl:=Lib.hid Gl;replace ik:=Lib.hid ik;replace hl:=Lib.hid hl;have hg:=d4y;have hn:=e0q dx dy dk di ex ey ek ei;by_cases j7:(⟨dx,dy,dk,di⟩:Dt)=⟨ex,ey,ek,ei⟩
    ·rw[decide_eq_true j7]at hn
     replace j7:=Lib.hid j7;go_wp2_with fail;refine zR0 λp=> ?_
     go_wp2_with fail;go_roundw
     case rel=>exact⟨k+1,oM,by go_num,Go.below_growBy' hB bu _,Lib.hid (by rw[AK.out,EO.out,eS.out,j7.out])⟩
     case measure=>simp[intOf];omega
    ·rw[decide_eq_false j7]at hn
     have bL:decide (a=b)=false:=by
      refine decide_eq_false (λe=>j7 ?_);have h1:=Gl.out;rw[e,ik.out]at h1;exact(Option.some.inj h1).symm
     obtain rfl:r=false:=hr.out.symm.trans bL;clear j7 bL;go_wp2_with fail;refine zR0 λp=> ?_
     go_wp2_with fail;go_ret;exact⟨rfl,Go.below_growBy' hB bu _⟩
   ·obtain rfl:k=a.length:=oM
    have bL:decide (a=b)=true:=by
     have h1:=eS.out;rw[List.take_length,hl,List.take_length]at h1;exact decide_eq_true h1
    obtain rfl:r=true:=hr.out.symm.trans bL;clear bL eS;exact yko
 ·have Je:((a.length:Int)==(b.length:Int))=false:=by simp;omega
  have bL:decide (a=b)=false:=decide_eq_false (λe=>hl (by rw[e]));obtain rfl:r=false:=hr.out.symm.trans bL;clear bL;go_enter func26,ntmps26;go_wp2_with fail;go_ret;exact⟨rfl,zR _ _⟩
structure Bx3 (w:Wd)(ev fv wv pv:Vu)(s:Sh)(dv kv lv:Vu)(W:Wd):Prop where
 k1:Blk W w.heap.size #[ev,fv,wv,pv] 37
 k2:Blk W (w.heap.size+1) #[.int .i64 s.ax,.int .i64 s.ay,.int .i64 s.st,.int .i64 s.w,.int .i64 s.h,.int .i64 s.g] 28
 k3:Blk W (w.heap.size+1+1) #[dv,kv,lv] 45
 bel:Below w.heap.size w W
theorem Bx3.init (w:Wd)(ev fv wv pv:Vu)(s:Sh)(dv kv lv:Vu):Bx3 w ev fv wv pv s dv kv lv (((w.alloc (.cells #[ev,fv,wv,pv] 37)).alloc (.cells #[.int .i64 s.ax,.int .i64 s.ay,.int .i64 s.st,.int .i64 s.w,.int .i64 s.h,.int .i64 s.g] 28)).alloc (.cells #[dv,kv,lv] 45)):=by
 obtain⟨W1,aH,k1,k2,k3,aE,-⟩:=d8w w #[ev,fv,wv,pv] #[.int .i64 s.ax,.int .i64 s.ay,.int .i64 s.st,.int .i64 s.w,.int .i64 s.h,.int .i64 s.g] #[dv,kv,lv] 37 28 45;exact aH▸⟨k1,k2,k3,aE⟩
theorem Bx3.up (h:Bx3 w ev fv wv pv s dv kv lv W)(hb:Below W.heap.size W W'):Bx3 w ev fv wv pv s dv kv lv W' :=
 ⟨h.k1.below hb h.k1.lt,h.k2.below hb h.k2.lt,h.k3.below hb h.k3.lt,h.bel.trans (hb.mono h.bel.size)⟩
theorem Bx3.low (h:Bx3 w ev fv wv pv s dv kv lv W)(hn:W.heap.size<=n)(hb:Below n W W'):Bx3 w ev fv wv pv s dv kv lv W':=h.up (hb.mono hn)
theorem Bx3.cells (h:Bx3 w ev fv wv pv s dv kv lv W):
 (W.cell? ⟨w.heap.size,0,none⟩=some ev/\W.cell? ⟨w.heap.size,1,none⟩=some fv/\W.cell? ⟨w.heap.size,2,none⟩=some wv/\W.cell? ⟨w.heap.size,3,none⟩=some pv)/\(W.cell? ⟨w.heap.size+1,0,none⟩=some (.int .i64 s.ax)/\W.cell? ⟨w.heap.size+1,1,none⟩=some (.int .i64 s.ay)/\W.cell? ⟨w.heap.size+1,2,none⟩=some (.int .i64 s.st)/\W.cell? ⟨w.heap.size+1,3,none⟩=some (.int .i64 s.w)/\W.cell? ⟨w.heap.size+1,4,none⟩=some (.int .i64 s.h)/\W.cell? ⟨w.heap.size+1,5,none⟩=some (.int .i64 s.g))/\W.cell? ⟨w.heap.size+1+1,0,none⟩=some dv/\W.cell? ⟨w.heap.size+1+1,1,none⟩=some kv/\W.cell? ⟨w.heap.size+1+1,2,none⟩=some lv :=
 ⟨⟨h.k1.cell 0,h.k1.cell 1,h.k1.cell 2,h.k1.cell 3⟩,⟨h.k2.cell 0,h.k2.cell 1,h.k2.cell 2,h.k2.cell 3,h.k2.cell 4,h.k2.cell 5⟩,h.k3.cell 0,h.k3.cell 1,h.k3.cell 2⟩
/-! the fold over the places in order -/
theorem d2t {α:Type}{l:List α}(hk:k<l.length):l=l.take k++l[k]::l.drop (k+1):=by
 rw[<-List.drop_eq_getElem_cons hk,List.take_append_drop]
theorem e3m {st:CD}(hk:k<ps.length)(h:cdN s pl wd (ps.take k)=some st)(h2:a2l (pfS s) pl st ps[k]=none):cdF (pfS s) pl wd ps=false:=by
 have h3:cdN s pl wd (ps.take k++[ps[k]])=none:=by rw[a9l,h];exact h2
 have h4:=c6a s pl wd (ps.take k) (ps.drop (k+1)) _ h3;rw[<-d2t hk]at h4;unfold cdF;rw[show ps.foldlM (a2l (pfS s) pl) ⟨wd,0,[]⟩=none from h4]
theorem e1v {st Gm:CD}(hk:k<ps.length)(h:cdN s pl wd (ps.take k)=some st)(h2:a2l (pfS s) pl st ps[k]=some Gm):cdN s pl wd (ps.take (k+1))=some Gm:=by
 rw[List.take_succ_eq_append_getElem hk,a9l,h];exact h2
theorem d7n (qs:List Pc):∀st,cdN s pl wd qs=some st->st.last=(qs.map Pc.id).reverse/\st.left<=qs.length/\st.want.length<=wd.length+33*qs.length:=by
 refine a4s (Q:=λqs=>∀st,cdN s pl wd qs=some st->st.last=(qs.map Pc.id).reverse/\st.left<=qs.length/\st.want.length<=wd.length+33*qs.length) ?_ (λrs p ih=> ?_) qs
 ·intro st h
  cases h;exact⟨rfl,yR _,yR _⟩
 ·intro st h
  rw[a9l]at h
  cases h1:cdN s pl wd rs with
  |none=>rw[h1]at h;cases h
  |some st1 =>
   rw[h1]at h;obtain⟨i1,i2,i3⟩:=ih st1 h1;have h2:a2l (pfS s) pl st1 p=some st:=h;have SM:=a8h s p;have hl:(rs++[p]).length=rs.length+1:=by simp
   unfold a2l at h2;split at h2
   ·cases h2
   ·split at h2
    ·split at h2
     ·cases h2
      refine⟨by simp[i1],by rw[hl];simp only;omega,by rw[hl];simp only;omega⟩
     ·cases h2
    ·split at h2
     ·cases h2
      refine⟨by simp[i1],by rw[hl];simp only;omega,by rw[hl];simp only[List.length_append];omega⟩
     ·cases h2
theorem e1w {st:CD}(h:cdN s pl wd ps=some st):cdF (pfS s) pl wd ps=(decide (st.left=pl.left.length)&&decide (st.want=pl.dots)):=by
 unfold cdF;rw[show ps.foldlM (a2l (pfS s) pl) ⟨wd,0,[]⟩=some st from h]
theorem d2u (op:BinOp)(a b:Operand)(xs ys:Array Value)(w:Wd):(eqGuard op 82 a b (.agg xs) (.agg ys)).run prog w= .ok () w:=run_eqGuard_agg w op 82 a b xs ys zM
theorem e1x (hg:g<=4)(a b:Dt):a5k g a b= !((decide (b.k=3)||decide (a.k=3))&& !(decide (b.k=a.k)&&decide (b.i=a.i))&&decide (a1x [b] [a]<g)):=by
 have h1:a1x [b] [a]<g↔(max (a.x-b.x) (b.x-a.x)<g/\max (a.y-b.y) (b.y-a.y)<g):=by
  rw[b3x hg];constructor
  ·rintro⟨d,hd,h⟩
   rw[List.mem_singleton]at hd;subst hd;have h2:=(b3w hg).1 h;rw[Int.max_comm,Int.max_comm (d.y-b.y)];exact h2
  ·intro h
   refine⟨a,List.mem_singleton.2 rfl,(b3w hg).2 ?_⟩;rw[Int.max_comm,Int.max_comm (b.y-a.y)];exact h
 have h2:(decide (max (a.x-b.x) (b.x-a.x)<g)&&decide (max (a.y-b.y) (b.y-a.y)<g))=decide (a1x [b] [a]<g):=by
  rw[<-Bool.decide_and];exact decide_eq_decide.2 h1.symm
 unfold a5k a8v;rw[h2];by_cases e1:a.k=3 <;> by_cases e2:b.k=3 <;> by_cases e3:a.k=b.k <;> by_cases e4:a.i=b.i <;> simp[e1,e2,e3,e4,eq_comm] <;> simp_all
theorem d6x {i:Nat}(hk:k<D.length)(hi:i<k)(h:a5k g D[k] (D[i]'(by omega))=false):b1m g D=false:=by
 cases he:b1m g D
 ·rfl
 ·rw[b9d,List.pairwise_iff_getElem]at he
  rw[he i k oM hk hi]at h
  cases h
theorem d2v (h:∀j (h1:j<D.length),j<D.length->∀i (h2:i<D.length),i<j->a5k g D[j] D[i]=true):b1m g D=true:=by
 rw[b9d,List.pairwise_iff_getElem];exact λi j hi hj ee=>h j hj hj i hi ee
theorem d2w (s:Sh)(mH:s.g<=4)(dv:Vu)(D:List Dt)(w:Wd)(hD:Lst dtE w.heap.size w dv D)(hf:∀d∈D,fits d.x/\fits d.y)(hn:D.length<=100000):
 Zc prog 53 #[shV s,dv] w (.bool (b1m s.g D)):=by
 obtain⟨r,hr⟩:=zE (b1m s.g D);rw[hr];replace hr:=Lib.hid hr;obtain⟨da,dc,rfl,vP⟩:=hD.form;go_enter func53,ntmps53;go_upto_region 1 with fail;have k2:=Blk.new w #[.int .i64 s.ax,.int .i64 s.ay,.int .i64 s.st,.int .i64 s.w,.int .i64 s.h,.int .i64 s.g] 28;have hb:Below w.heap.size w (w.alloc (.cells #[.int .i64 s.ax,.int .i64 s.ay,.int .i64 s.st,.int .i64 s.w,.int .i64 s.h,.int .i64 s.g] 28)):=zC;obtain⟨W,hW⟩:=zE (w.alloc (.cells #[.int .i64 s.ax,.int .i64 s.ay,.int .i64 s.st,.int .i64 s.w,.int .i64 s.h,.int .i64 s.g] 28));rw[hW]at k2 hb ⊢;clear hW;obtain⟨B2,aG⟩:=zE w.heap.size;rw[aG]at k2 ⊢;obtain⟨g,ub⟩:=zE s.g;rw[ub]at mH hr k2;have AI:=hD.up hb;go_wp2_with fail;go_loopw [5] (λkk fZ=>∃k:Nat,k<=D.length/\kk= .int .i64 (k:Nat)/\Below W.heap.size W fZ/\Hid (∀j (h1:j<D.length),j<k->∀i (h2:i<D.length),i<j->a5k g D[j] D[i]=true)) (λkk _=>D.length-(intOf kk).toNat)
 case atStart=>exact⟨0,Nat.zero_le _,rfl,zR _ _,Lib.hid λj _ hj=>absurd hj oM⟩
 case round =>
  obtain⟨fZ,gw⟩:∃W,W=wr:=⟨_,rfl⟩;subst gw;obtain⟨k,aR,rfl,aL,ah⟩:=hrel;by_cases ag:k<D.length
  ·have aA:(k:Int)<(D.length:Int):=oM
   have eB:=AI.up aL;obtain⟨b,off,cap,hv,bY,gV,hc⟩:=eB.some_ oM;simp only[Value.slice.injEq,true_and]at hv;obtain⟨rfl,rfl⟩:=hv;go_wp2_with fail;go_loopw [6] (λiv wx=>∃i:Nat,i<=k/\iv= .int .i64 (i:Nat)/\Below fZ.heap.size fZ wx/\Hid (∀j (h1:j<D.length),j<i->a5k g D[k] D[j]=true)) (λiv _=>k-(intOf iv).toNat)
   case atStart=>exact⟨0,Nat.zero_le _,rfl,zR _ _,Lib.hid λj _ h=>absurd h oM⟩
   case round =>
    obtain⟨wx,gw⟩:∃W,W=wr:=⟨_,rfl⟩;subst gw;obtain⟨i,hi,rfl,bA,bP⟩:=hrel;have ic:=bA.size;by_cases wZ:i<k
    ·have EP:(i:Int)<(k:Int):=oM
     have rk:i<D.length:=oM;have AF:(i:Int)<(D.length:Int):=oM;have mu:=hc i rk;have aB:=hc k ag;have gR:=aL.trans (bA.mono aL.size);have Lo:=hb.trans (gR.mono hb.size);have uT:=Lo.size;have rD:=λc=>b8c (cap:=c) rk gV mu (hf _ (List.getElem_mem rk))
     have rE:=λc=>b8c (cap:=c) ag gV aB (hf _ (List.getElem_mem ag))
     have fD:=Lib.hid λh:a5k g D[k] D[i]=true=>(show ∀j (h1:j<D.length),j<i+1->a5k g D[k] D[j]=true from λj h1 h2=>by
      by_cases e:j=i
      ·subst e;exact h
      ·exact bP.out j h1 oM)
     have fH:=Lib.hid λh:a5k g D[k] D[i]=false=>hr.out.symm.trans (d6x ag wZ h)
     obtain⟨q,hq⟩:=zE (D[i]);obtain⟨p,hp⟩:=zE (D[k]);have lS:=Lib.hid (show a5k g D[k] D[i]=a5k g p q by rw[hq,hp]);rw[hq]at mu fH;rw[hp]at aB fH;simp only[hq]at rD;simp only[hp]at rE;have hle:∀(G:Growth) (c c':Nat),Zc prog 100 #[.slice (some ⟨b,off+i*4,none⟩) 1 c,.slice (some ⟨b,off+k*4,none⟩) 1 c'] (wx.growBy G) (.int .i64 (a1x [q] [p])):=λG c c' =>
      b0m _ _ [q] [p] _ ((((rD c).below bA).mono ic).below (Go.below_growBy wx G) |>.mono (Go.below_growBy wx G).size) ((((rE c').below bA).mono ic).below (Go.below_growBy wx G) |>.mono (Go.below_growBy wx G).size)
     have g4:wx.cell? ⟨B2,5,none⟩=some (.int .i64 g):=(k2.below gR k2.lt).cell 5;have e2:wx.cell? ⟨b,off+i*4+2,none⟩=some (.int .i64 q.k):=a0e bA (mu 2 (show 2<4 by decide));have e3:wx.cell? ⟨b,off+i*4+3,none⟩=some (.int .i64 q.i):=a0e bA (mu 3 (show 3<4 by decide));have c2:wx.cell? ⟨b,off+k*4+2,none⟩=some (.int .i64 p.k):=a0e bA (aB 2 (show 2<4 by decide));have c3:wx.cell? ⟨b,off+k*4+3,none⟩=some (.int .i64 p.i):=a0e bA (aB 3 (show 3<4 by decide));have aE:IntKind.i64.wrap ((k:Int)+1)=(k:Int)+1:=a1i oM oM;have jR:(k:Int)+1<=(dc:Int):=oM;have eD:(k:Int)<=(k:Int)+1:=oM;have pB:((k:Int)+1).toNat=k+1:=oM;have Km:k+1-k=1:=oM;have fI:IntKind.i64.wrap ((i:Int)+1)=(i:Int)+1:=a1i oM oM;have IV:(i:Int)+1<=(dc:Int):=oM;have Vp:(i:Int)<=(i:Int)+1:=oM;have lU:((i:Int)+1).toNat=i+1:=oM;have ng:i+1-i=1:=oM;have rG:=Lib.hid (e1x mH p q);obtain⟨r2,bB⟩:=zE (a1x [q] [p]);rw[bB]at rG hle;clear hq hp mu aB rD rE bP ah hc eB bB hD AI;obtain⟨qx,qy,qk,qi⟩:=q;obtain⟨px,py,pk,pi⟩:=p;simp only at e2 e3 c2 c3;by_cases pM:qk=3\/pk=3
     ·by_cases bR:qk=pk/\qi=pi
      ·obtain⟨rfl,rfl⟩:=bR
       have a7:a5k g ⟨px,py,qk,qi⟩ ⟨qx,qy,qk,qi⟩=true:=by rw[rG.out];simp
       obtain rfl:qk=3:=pM.elim (λh=>h) (λh=>h);clear pM;exact yaw
      ·have wK:(decide (r2<g))=false->a5k g ⟨px,py,pk,pi⟩ ⟨qx,qy,qk,qi⟩=true:=λh=>by rw[rG.out,h];simp
       have ki:(decide (r2<g))=true->a5k g ⟨px,py,pk,pi⟩ ⟨qx,qy,qk,qi⟩=false:=λh=>by
        rw[rG.out,h];rcases pM with h1|h1 <;> simp[h1] <;> simp_all
       by_cases h1:qk=3
       ·have a1:(qk==3)=true:=by simpa using h1
        by_cases h2:qk=pk
        ·have a2:(qk==pk)=true:=by simpa using h2
         have a3:(qi==pi)=false:=by simpa using λh=>bR ⟨h2,h⟩
         clear h1 h2 pM bR;exact yar
        ·have a2:(qk==pk)=false:=by simpa using h2
         clear h1 h2 pM bR;exact yar
       ·have a1:(qk==3)=false:=by simpa using h1
        have a4:(pk==3)=true:=by simpa using pM.resolve_left h1
        have a2:(qk==pk)=false:=by
         have h2:=pM.resolve_left h1;simp;omega
        clear h1 pM bR;exact yar
     ·have a1:(qk==3)=false:=by simp;omega
      have a4:(pk==3)=false:=by simp;omega
      have a7:a5k g ⟨px,py,pk,pi⟩ ⟨qx,qy,qk,qi⟩=true:=by
       rw[rG.out];simp[show ¬qk=3 by omega,show ¬pk=3 by omega]
      clear pM;by_cases h2:qk=pk
      ·have a2:(qk==pk)=true:=by simpa using h2
       clear h2;by_cases h3:qi=pi
       ·have a3:(qi==pi)=true:=by simpa using h3
        clear h3;exact yaw
       ·have a3:(qi==pi)=false:=by simpa using h3
        clear h3;exact yaw
      ·have a2:(qk==pk)=false:=by simpa using h2
       clear h2;exact yaw
    ·obtain rfl:i=k:=oM
     have aY:¬(i:Int)<(i:Int):=oM;have gH:=Lib.hid (show ∀j (h1:j<D.length),j<i+1->∀t (h2:t<D.length),t<j->a5k g D[j] D[t]=true from λj h1 h2 t h3 h4=>by
      by_cases e:j=i
      ·subst e;exact bP.out t h3 h4
      ·exact ah.out j h1 oM t h3 h4)
     have gR:=aL.trans (bA.mono aL.size);clear ah bP hc;go_wp2_with fail;go_roundw
     case rel=>exact⟨i+1,oM,by go_num,gR,gH⟩
     case measure=>simp[intOf];omega
  ·obtain rfl:k=D.length:=oM
   have aY:¬(D.length:Int)<(D.length:Int):=oM;obtain rfl:r=true:=hr.out.symm.trans (d2v ah.out);clear hr ah;exact yhk
abbrev d3n (pl:Pn)(p:Pc):List Ke:=if(why pl p.id).isNone then a2s p else []
theorem a5v (hk:k<ps.length):a1p a2s pl (ps.take (k+1))=a1p a2s pl (ps.take k)++d3n pl ps[k]:=by
 unfold a1p;rw[List.take_succ_eq_append_getElem hk,List.flatMap_append,List.flatMap_singleton]
theorem b4k (k:Nat):a1p a2s pl ps=a1p a2s pl (ps.take k)++a1p a2s pl (ps.drop k):=by
 unfold a1p;rw[<-List.flatMap_append,List.take_append_drop]
theorem d2x {x:Ke}(hk:k<ps.length)(hx:d3n pl ps[k]=[x])(hl:pl.keys.length<=(a1p a2s pl (ps.take k)).length):decide (a1p a2s pl ps=pl.keys)=false:=by
 refine decide_eq_false λe=> ?_
 rw[b4k (k+1),a5v hk,hx]at e;have:=congrArg List.length e;simp only[List.length_append,List.length_cons,List.length_nil]at this;omega
theorem d2y {x y:Ke}(hk:k<ps.length)(hx:d3n pl ps[k]=[x])(hy:pl.keys[(a1p a2s pl (ps.take k)).length]? =some y)(av:y≠x):decide (a1p a2s pl ps=pl.keys)=false:=by
 refine decide_eq_false λe=>av ?_
 rw[b4k (k+1),a5v hk,hx]at e;rw[<-e,List.append_assoc,List.getElem?_append_right (yR _)]at hy;simpa using hy.symm
theorem d9x {x:Ke}(hk:k<ps.length)(hx:d3n pl ps[k]=[x])(hp:a1p a2s pl (ps.take k)=pl.keys.take (a1p a2s pl (ps.take k)).length)(hy:pl.keys[(a1p a2s pl (ps.take k)).length]? =some x):
 a1p a2s pl (ps.take (k+1))=pl.keys.take (a1p a2s pl (ps.take (k+1))).length/\(a1p a2s pl (ps.take (k+1))).length=(a1p a2s pl (ps.take k)).length+1:=by
 have hl:(a1p a2s pl (ps.take (k+1))).length=(a1p a2s pl (ps.take k)).length+1:=by rw[a5v hk,hx];simp
 refine⟨?_,hl⟩;have h2:pl.keys.take ((a1p a2s pl (ps.take k)).length+1)=pl.keys.take (a1p a2s pl (ps.take k)).length++[x]:=by rw[List.take_add_one,hy];rfl
 rw[hl,a5v hk,hx];exact(congrArg (·++[x]) hp).trans h2.symm
theorem d2z (hk:k<ps.length)(hx:d3n pl ps[k]=[]):a1p a2s pl (ps.take (k+1))=a1p a2s pl (ps.take k):=by
 rw[a5v hk,hx,List.append_nil]
theorem d3a (ev fv wv pv dv kv lv:Vu)(l:List Pc)(pl:Pn)(w:Wd)(hL:Lst plE w.heap.size w pv l)(hF:Frm pv l.length)(hl:l.length<=100)(a7:∀p∈l,PcOk p/\p.cls.size<=1000)
 (aR:Lst keE w.heap.size w kv pl.keys) (cZ:Lst lfE w.heap.size w lv pl.left) :
 Zc prog 54 #[b3t ev fv wv pv,a1t dv kv lv] w (.bool (decide (a1p a2s pl (a0q l)=pl.keys))):=by
 obtain⟨r,hr⟩:=zE (decide (a1p a2s pl (a0q l)=pl.keys));rw[hr];obtain⟨pa,pc,rfl,-⟩:=hL.form;obtain⟨ka,kc,rfl,ju⟩:=aR.form;obtain⟨la,lc,rfl,-⟩:=cZ.form;have mQ:=λw4 (hb:Below w.heap.size w w4)=>a7m ev fv wv (.slice pa l.length pc) l w4 (hL.up hb) hF oM
 have fp:(a0q l).length=l.length:=(a0v l).length_eq;have de:∀p∈a0q l,PcOk p/\p.cls.size<=1000:=λp hp=>a7 p ((a0v l).mem_iff.1 hp)
 obtain⟨ps,eT⟩:=zE (a0q l);rw[eT]at fp mQ de hr;clear eT;have zk:ps.length<=100:=oM;replace fp:=Lib.hid fp;have nG:=aR.mil;replace hr:=Lib.hid hr;go_enter func54,ntmps54;go_upto_region 1 with fail;have k1:=(Blk.new w #[ev,fv,wv,.slice pa l.length pc] 37).alloc (.cells #[dv,.slice ka pl.keys.length kc,.slice la pl.left.length lc] 45);have k2:=Blk.new (w.alloc (.cells #[ev,fv,wv,.slice pa l.length pc] 37)) #[dv,.slice ka pl.keys.length kc,.slice la pl.left.length lc] 45;have aw:Below w.heap.size w ((w.alloc (.cells #[ev,fv,wv,.slice pa l.length pc] 37)).alloc (.cells #[dv,.slice ka pl.keys.length kc,.slice la pl.left.length lc] 45)):=((zR _ _).alloc (yR _) _).alloc vM _;simp only[World.size_alloc]at k2;obtain⟨W1,aH⟩:=zE ((w.alloc (.cells #[ev,fv,wv,.slice pa l.length pc] 37)).alloc (.cells #[dv,.slice ka pl.keys.length kc,.slice la pl.left.length lc] 45));rw[aH]at k1 k2 aw ⊢;clear aH;obtain⟨m0,m1,m2,m3⟩:=zN4 k1;go_wp2_with (first
  |(go_at_call 40;(with_reducible refine(mQ _ aw).mono ?_);rintro e W2⟨v8,rfl,gE,az⟩
    rw[<-fp.out]at gE;obtain⟨a8,c8,rfl,-⟩:=(a0d a4f gE oM).form))
 have AU:=a0d a4f gE oM;have dT:=aw.trans (az.mono aw.size);have kP:=k2.below az k2.lt;have SN:=aR.up dT;have iX:=cZ.up dT;obtain⟨B3,aN⟩:=zE (w.heap.size+1);rw[aN]at kP ⊢;clear gE mQ k1 k2 aw az m0 m1 m2 m3 hL hF aR cZ;go_loopw [6,7] (λnv oP wr=>∃k n:Nat,k<=ps.length/\oP= .int .i64 (k:Nat)/\nv= .int .i64 (n:Nat)/\Hid (n=(a1p a2s pl (ps.take k)).length/\a1p a2s pl (ps.take k)=pl.keys.take n/\n<=pl.keys.length)/\Below W2.heap.size W2 wr) (λ_ oP _=>ps.length-(intOf oP).toNat)
 case atStart=>exact⟨0,0,Nat.zero_le _,rfl,rfl,Lib.hid ⟨rfl,by simp[a1p],Nat.zero_le _⟩,zR _ _⟩
 case round =>
  obtain⟨k,n,hk,rfl,rfl,hI,aL⟩:=hrel;have mv:=aL.size;have Gn:=kP.below aL kP.lt;by_cases ag:k<ps.length
  ·have aA:(k:Int)<(ps.length:Int):=oM
   have eB:=AU.up aL;obtain⟨b,off,cap,hv,-,gV,hc⟩:=eB.some_ oM;simp only[Value.slice.injEq,true_and]at hv;obtain⟨rfl,rfl⟩:=hv;obtain⟨dY,ie⟩:=de _ (List.getElem_mem ag);have aB:=hc k ag;obtain⟨i1,i2,i3⟩:=hI.out;have eu:=Lib.hid λh:d3n pl ps[k]=[]=>(show n=(a1p a2s pl (ps.take (k+1))).length/\a1p a2s pl (ps.take (k+1))=pl.keys.take n/\n<=pl.keys.length from by rw[d2z ag h];exact hI.out)
   have eX:=Lib.hid λx (h:d3n pl ps[k]=[x]) (h2:pl.keys.length<=n)=>hr.out.symm.trans (d2x ag h (i1▸h2))
   have eY:=Lib.hid λx y (h:d3n pl ps[k]=[x]) (hy:pl.keys[n]? =some y) (av:y≠x)=>hr.out.symm.trans (d2y ag h (i1▸hy) av)
   have fD:=Lib.hid λx (h:d3n pl ps[k]=[x]) (hn:n<pl.keys.length) (hy:pl.keys[n]? =some x)=>(show n+1=(a1p a2s pl (ps.take (k+1))).length/\a1p a2s pl (ps.take (k+1))=pl.keys.take (n+1)/\n+1<=pl.keys.length from by
    obtain⟨j1,j2⟩:=d9x ag h (i1▸i2) (i1▸hy);rw[<-i1]at j2;exact⟨j2.symm,j2▸j1,hn⟩)
   have Nx:n<=1000000:=oM;clear i1 i2 i3 hI;obtain⟨p,hp⟩:=zE (ps[k]);rw[hp]at dY ie aB eu eX eY fD;have cL:=λX=>c6d p dY.nm X
   unfold d3n a2s at eu eX eY fD;obtain⟨id,x,y,cls,nm,wt,ds⟩:=p;obtain⟨dL,e8,ff,gL,gN,gO,gP⟩:=c1s aB;obtain⟨o,ho⟩:=zE (c8u ⟨id,x,y,cls,nm,wt,ds⟩);unfold e0c at cL;simp only[ho]at cL eu eX eY fD;have zn:=λX (hX:Below w.heap.size w X)=>b4j dv (.slice ka pl.keys.length kc) (.slice la pl.left.length lc) pl id X
   obtain⟨oy,Ny⟩:=zE (why pl id);simp only[Ny]at zn eu eX eY fD;clear ho Ny aB hp hc eB;go_upto_region 7 with(first
    |(go_at_call 43;(with_reducible refine(cL _).mono ?_);rintro e W7⟨k0,rfl,jI,eV⟩))
   have bf:Below wr.heap.size wr (W7.alloc (.cells #[.int .i64 k0.n,.int .i64 k0.p,.string k0.c] 82)):=eV.alloc eV.size _;have dn:=Blk.new W7 #[.int .i64 k0.n,.int .i64 k0.p,.string k0.c] 82;have gm:=a0e bf dL;obtain⟨W8,jz⟩:=zE (W7.alloc (.cells #[.int .i64 k0.n,.int .i64 k0.p,.string k0.c] 82));rw[jz]at bf dn gm ⊢;obtain⟨Bk,oN⟩:=zE W7.heap.size;rw[oN]at dn ⊢;have my:=aL.trans (bf.mono mv);have p7:=my.size;have Gp:=Gn.below bf Gn.lt;have Nz:=SN.up my;have hle:=λX (hX:Below W8.heap.size W8 X)=>zn X (dT.trans ((my.trans (hX.mono p7)).mono dT.size)) (iX.up (my.trans (hX.mono p7)))
   obtain⟨y0,y1,y2⟩:=zN3 dn;obtain⟨q0,q1,q2⟩:=zN3 Gp;clear jz oN bf eV dL e8 ff gL gN gO gP cL zn Gn aL
   cases o with
   |none =>
    have iD:=Lib.hid (eu.out (by cases oy <;> rfl));clear eu eX eY fD hle jI;simp only[Option.isSome_none];go_wp2_with fail;refine zR0 λp=> ?_
    exact ygr
   |some kx =>
    obtain rfl:=jI kx rfl;simp only[Option.isSome_some]
    cases oy with
    |some j =>
     have iD:=Lib.hid (eu.out rfl);have fC:(0:Int)<=(j:Int):=oM;simp only[a8n]at hle;clear eu eX eY fD jI;go_wp2_with fail;refine e3t λp=> ?_
     exact ygr
    |none =>
     simp only[a8n]at hle;go_wp2_with fail;refine e3t λp=> ?_
     have uA:=my.trans ((Go.below_growBy W8 p).mono p7);have NA:=Gp.below (Go.below_growBy W8 p) Gp.lt;have NB:=dn.below (Go.below_growBy W8 p) dn.lt;have F3:=Nz.up (Go.below_growBy W8 p);obtain⟨WP,NC⟩:=zE (W8.growBy p);rw[NC]at uA NA NB F3 ⊢;clear NC y0 y1 y2 q0 q1 q2 Gp dn Nz hle my p7 gm;have KT:=uA.size;have Cc:=dT.trans (uA.mono dT.size);have GY:=Cc.size;obtain⟨y0,y1,y2⟩:=zN3 NB;have q1:WP.cell? ⟨B3,1,none⟩=some (.slice ka pl.keys.length kc):=NA.cell 1;by_cases qd:n<pl.keys.length
     ·have SO:(n:Int)<(pl.keys.length:Int):=oM
      have ER:¬(pl.keys.length:Int)<=(n:Int):=oM;obtain⟨b2,o2,ke,ew,-,-,bK⟩:=F3.some_ oM;simp only[Value.slice.injEq,true_and]at ew;obtain⟨rfl,rfl⟩:=ew;have mr:=bK n qd;have eK:=List.getElem?_eq_getElem qd;obtain⟨ky,ND⟩:=zE (pl.keys[n]);rw[ND]at mr eK;obtain⟨an,ap,ac⟩:=ky;obtain⟨bn,bp,bc⟩:=k0;obtain⟨x0,x1,x2⟩:=c1r mr;have hg:=d2u;have gi:=d8y an ap ac bn bp bc;clear mr bK ND;by_cases heq:(⟨an,ap,ac⟩:Ke)=⟨bn,bp,bc⟩
      ·rw[decide_eq_true heq]at gi
       have iD:=Lib.hid (fD.out ⟨bn,bp,bc⟩ rfl qd (heq▸eK));clear eu eX eY fD heq eK jI;go_wp2_with fail;refine zR0 λp=> ?_
       go_wp2_with fail;go_roundw
       case rel=>exact⟨k+1,n+1,oM,by go_num,by go_num,iD,uA.trans ((Go.below_growBy _ _).mono KT)⟩
       case measure=>simp[intOf];omega
      ·rw[decide_eq_false heq]at gi
       obtain rfl:r=false:=eY.out ⟨bn,bp,bc⟩ ⟨an,ap,ac⟩ rfl eK heq;clear eu eX eY fD heq eK jI hr;exact yhn
     ·have ER:(pl.keys.length:Int)<=(n:Int):=oM
      obtain rfl:r=false:=eX.out k0 rfl oM;clear eu eX eY fD jI hr;exact yhn
  ·obtain rfl:k=ps.length:=oM
   have aY:¬(ps.length:Int)<(ps.length:Int):=oM;obtain⟨i1,i2,i3⟩:=hI.out;rw[List.take_length]at i1 i2;have q1:wr.cell? ⟨B3,1,none⟩=some (.slice ka pl.keys.length kc):=Gn.cell 1;have gR:=dT.trans (aL.mono dT.size);clear hI;by_cases qd:n=pl.keys.length
   ·have hb:((n:Int)==(pl.keys.length:Int))=true:=by simp[qd]
    obtain rfl:r=true:=by rw[<-hr.out,i2,qd,List.take_length];simp
    clear hr i1 i2 i3 qd;exact ygd
   ·have hb:((n:Int)==(pl.keys.length:Int))=false:=by simp;omega
    obtain rfl:r=false:=by
     rw[<-hr.out];exact decide_eq_false λe=>qd (by rw[i1,e])
    clear hr i1 i2 i3 qd;exact ygd
end
end Go.Proofs.YtfocdbjceedagaaGreatDoor
