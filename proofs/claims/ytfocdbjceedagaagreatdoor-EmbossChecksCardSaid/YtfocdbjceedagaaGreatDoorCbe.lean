/-
  Parts.
-/
import Derived.Test.YtfocdbjceedagaaGreatDoorCbc
set_option linter.unusedVariables false
set_option linter.unusedSimpArgs false
set_option maxHeartbeats 8000000
set_option maxRecDepth 100000
namespace Go.Proofs.YtfocdbjceedagaaGreatDoor
open Tryz
section
open Go Go.RowKit Go.Shelf Go.Lib
theorem c8q (s:Sh)(hs:a1h s=0)(ev fv wv pv dv kv lv:Vu)(l:List Pc)(ws:List Wy)(pl:Pn)(w:Wd)(hL:Lst plE w.heap.size w pv l)(hF:Frm pv l.length)(hl:l.length<=100)(a7:∀p∈l,PcOk p/\p.cls.size<=1000)
 (hW:Wys w.heap.size w wv ws) (hlen:ws.length<=100) (aO:∀y∈ws,y.line.length<=100) (hd:Lst dtE w.heap.size w dv pl.dots) (cZ:Lst lfE w.heap.size w lv pl.left) :
 Zc prog 52 #[b3t ev fv wv pv,shV s,a1t dv kv lv] w (.bool (cdF (pfS s) pl (wdF s ws) (a0q l))):=by
 have iD:=a4l hs;obtain⟨r,hr⟩:=zE (cdF (pfS s) pl (wdF s ws) (a0q l));rw[hr];obtain⟨pa,pc,rfl,-⟩:=hL.form;obtain⟨da,dc,rfl,-⟩:=hd.form;obtain⟨la,lc,rfl,-⟩:=cZ.form;have gq:=λw4 (hb:Below w.heap.size w w4)=>c1k s wv ws w4 hs (hW.up hb hb.size) hlen aO
 have mQ:=λw4 (hb:Below w.heap.size w w4)=>a7m ev fv wv (.slice pa l.length pc) l w4 (hL.up hb) hF oM
 have fp:(a0q l).length=l.length:=(a0v l).length_eq;have de:∀p∈a0q l,PcOk p/\p.cls.size<=1000:=λp hp=>a7 p ((a0v l).mem_iff.1 hp)
 obtain⟨ps,eT⟩:=zE (a0q l);rw[eT]at fp mQ de hr;clear eT;have zk:ps.length<=100:=oM;replace fp:=Lib.hid fp;have iR:=a7b iD ws;have zo:=cZ.mil;replace hr:=Lib.hid hr;go_enter func52,ntmps52;go_upto_region 1 with fail;have hB:=Bx3.init w ev fv wv (.slice pa l.length pc) s (.slice da pl.dots.length dc) kv (.slice la pl.left.length lc);obtain⟨W1,aH⟩:=zE (((w.alloc (.cells #[ev,fv,wv,.slice pa l.length pc] 37)).alloc (.cells #[.int .i64 s.ax,.int .i64 s.ay,.int .i64 s.st,.int .i64 s.w,.int .i64 s.h,.int .i64 s.g] 28)).alloc (.cells #[.slice da pl.dots.length dc,kv,.slice la pl.left.length lc] 45));rw[aH]at hB ⊢;clear aH;obtain⟨⟨m0,m1,m2,m3⟩,-,-⟩:=hB.cells;go_upto_region 3 with(first
  |(go_at_call 40;(with_reducible refine(mQ _ hB.bel).mono ?_);rintro e W2⟨v8,rfl,gE,az⟩
    rw[<-fp.out]at gE;obtain⟨a8,c8,rfl,-⟩:=(a0d a4f gE oM).form;have aG:=hB.up az;clear m0 m1 m2 m3;obtain⟨⟨m0,m1,m2,m3⟩,⟨s0,s1,s2,s3,s4,s5⟩,-⟩:=aG.cells)
  |(go_at_call 39;(with_reducible refine(gq _ aG.bel).mono ?_);rintro e W3⟨v,base,rfl,aD,ae,aV⟩
    clear m0 m1 m2 m3 s0 s1 s2 s3 s4 s5;obtain⟨va,vc,rfl⟩:∃a c,v= .slice a (wdF s ws).length c:=by
     obtain⟨a,c,h,-⟩:=(a0d a4t ae (by unfold wdF at iR;omega)).form;exact⟨a,c,h⟩))
 have AU:=a0d a4f gE oM;have gF:=b2a ae aD;have ue:=hd.up aG.bel;have iX:=cZ.up aG.bel;clear gE ae aD mQ gq hB az hL hF hW hd cZ;obtain⟨n2,iP⟩:=zE W2.heap.size;rw[iP]at AU gF ue iX aV;go_wp2_with fail;go_loopw [8,9,10] (λSS nv oP fZ=>∃(k:Nat) (st:CD),k<=ps.length/\oP= .int .i64 (k:Nat)/\nv= .int .i64 (st.left:Nat)/\Hid (cdN s pl (wdF s ws) (ps.take k)=some st)/\fZ.ownsRow n2 54 4 SS st.want.length (st.want.flatMap dtE.enc)/\Below n2 W2 fZ) (λ_ _ oP _=>ps.length-(intOf oP).toNat)
 case atStart=>exact⟨0,⟨wdF s ws,0,[]⟩,Nat.zero_le _,rfl,rfl,Lib.hid rfl,gF,aV⟩
 case round =>
  obtain⟨fZ,gw⟩:∃W,W=wr:=⟨_,rfl⟩;subst gw;clear gF aV;obtain⟨k,st,hk,rfl,rfl,pz,ae,aL⟩:=hrel;obtain⟨dh,cF,gZ⟩:=d7n _ _ pz.out;rw[List.length_take]at cF gZ;have gI:n2<=fZ.heap.size:=by have:=aL.size;omega
  have vX:=aG.low oM aL;obtain⟨ua,uc,vC,-⟩:=(a0d a4t ae oM).form;subst vC;by_cases ag:k<ps.length
  ·have aA:(k:Int)<(ps.length:Int):=oM
   have eB:=AU.below aL;obtain⟨b,off,cap,hv,-,gV,hc⟩:=eB.some_ oM;simp only[Value.slice.injEq,true_and]at hv;obtain⟨rfl,rfl⟩:=hv;obtain⟨dY,ie⟩:=de _ (List.getElem_mem ag);have aK:=Lib.hid λ(h:a2l (pfS s) pl st ps[k]=none)=>hr.out.symm.trans (e3m ag pz.out h)
   have aF:=Lib.hid λGm (h:a2l (pfS s) pl st ps[k]=some Gm)=>e1v ag pz.out h
   have aB:=hc k ag;have gG:=Lib.hid (show ∀x:Int,x∈st.last↔∃j,∃h:j<k,(ps[j]'(by omega)).id=x from λx=>by
    rw[dh,List.mem_reverse,List.mem_map];constructor
    ·rintro⟨q,hq,e⟩
     obtain⟨j,hj,rfl⟩:=List.getElem_of_mem hq;rw[List.length_take]at hj;exact⟨j,oM,by rw[List.getElem_take]at e;exact e⟩
    ·rintro⟨j,hj,e⟩
     exact⟨ps[j],List.mem_take_iff_getElem.2 ⟨j,oM,rfl⟩,e⟩)
   obtain⟨p,hp⟩:=zE (ps[k]);rw[hp]at dY ie aK aF aB;obtain⟨id,x,y,cls,nm,wt,ds⟩:=p;clear pz;have kt:(k:Int)<(ps.length:Int):=oM;go_wp2_with fail;go_loopw [11] (λiv wx=>∃i:Nat,i<=k/\iv= .int .i64 (i:Nat)/\Below fZ.heap.size fZ wx/\Hid (∀j (h1:j<ps.length),j<i->ps[j].id≠id)) (λiv _=>k-(intOf iv).toNat)
   case atStart=>exact⟨0,Nat.zero_le _,rfl,zR _ _,Lib.hid λj _ h=>absurd h oM⟩
   case round =>
    obtain⟨wx,gw⟩:∃W,W=wr:=⟨_,rfl⟩;subst gw;obtain⟨i,hi,rfl,bA,av⟩:=hrel;have qh:=vX.up bA;have ic:=bA.size;by_cases wZ:i<k
    ·have EP:(i:Int)<(k:Int):=oM
     have AF:(i:Int)<(ps.length:Int):=oM;have mu:=a0e bA (hc i oM 0 (show 0<7 by decide));have rJ:=a0e bA (aB 0 (show 0<7 by decide));have rK:=Lib.hid (λh:(ps[i]'(by omega)).id=id=>(show a2l (pfS s) pl st ⟨id,x,y,cls,nm,wt,ds⟩=none by
      unfold a2l;rw[if_pos ((gG.out id).2 ⟨i,wZ,h⟩)]))
     have gT:=Lib.hid (λh:¬(ps[i]'(by omega)).id=id=>(show ∀j (h1:j<ps.length),j<i+1->ps[j].id≠id from λj h1 h2=>by
      by_cases e:j=i
      ·subst e;exact h
      ·exact av.out j h1 oM))
     obtain⟨q,hq⟩:=zE (ps[i]'(by omega));simp only[hq]at mu rK gT;obtain⟨qi,jU⟩:=zE q.id;have e0:wx.cell? ⟨b,off+i*7,none⟩=some (.int .i64 qi):=jU▸mu;have e1:wx.cell? ⟨b,off+k*7,none⟩=some (.int .i64 id):=rJ;rw[jU]at rK gT;clear mu rJ hq jU aB hc gG av eB;by_cases heq:qi=id
     ·have wJ:(qi==id)=true:=by simpa using heq
      obtain rfl:r=false:=aK.out (rK.out heq);have bA:=qh.bel;have uU:=bA.size;clear rK gT heq aK aF hr;go_wp2_with fail;refine zR0 λp=> ?_
      go_wp2_with fail;go_ret;exact⟨rfl,Go.below_growBy' bA uU _⟩
     ·have wJ:(qi==id)=false:=by simpa using heq
      have jN:=Lib.hid (gT.out heq);clear rK gT heq aK aF hr;go_wp2_with fail;refine zR0 λp=> ?_
      go_wp2_with fail;go_roundw
      case rel=>exact⟨i+1,oM,by go_num,Go.below_growBy' bA ic _,jN⟩
      case measure=>simp[intOf];omega
    ·obtain rfl:k=i:=oM
     have aY:¬(k:Int)<(k:Int):=oM;have iO:id∉st.last:=λh=>by
      obtain⟨j,hj,e⟩:=(gG.out id).1 h;exact av.out j oM hj e
     have aS:a2l (pfS s) pl st ⟨id,x,y,cls,nm,wt,ds⟩=(match why pl id with|some k=>if k=st.left then some ⟨st.want,st.left+1,id::st.last⟩else none|none=>if(pfS s ⟨id,x,y,cls,nm,wt,ds⟩).1 then some ⟨st.want++(pfS s ⟨id,x,y,cls,nm,wt,ds⟩).2,st.left,id::st.last⟩else none):=by
      conv=>lhs;unfold a2l
      rw[if_neg iO];rfl
     have Gs:=aL.trans (bA.mono gI);have hle:=λX (hX:Below wx.heap.size wx X)=>b4j (.slice da pl.dots.length dc) kv (.slice la pl.left.length lc) pl id X ((iX.below (Gs.trans (hX.mono (Nat.le_trans gI ic)))).mono (Nat.le_trans (Nat.le_trans gI ic) hX.size))
     have rJ:=a0e bA (aB 0 (show 0<7 by decide));have e1:wx.cell? ⟨b,off+k*7,none⟩=some (.int .i64 id):=rJ;obtain⟨-,-,q0,q1,q2⟩:=qh.cells;have rL:=a0r ae bA;have et:=c7n s ⟨id,x,y,cls,nm,wt,ds⟩;have fM:=a8h s ⟨id,x,y,cls,nm,wt,ds⟩;have fR:=λW=>b0q s id x y wt ds id cls nm W dY.id ie
     simp only[show plF s x y id cls id=pfS s ⟨id,x,y,cls,nm,wt,ds⟩from rfl]at fR;obtain⟨⟨on,dl⟩,gS⟩:∃r,pfS s ⟨id,x,y,cls,nm,wt,ds⟩=r:=⟨_,rfl⟩;simp only[gS]at fR et fM aS;obtain⟨o,ho⟩:=zE (why pl id);rw[ho]at aS;simp only[ho]at hle;replace aS:=Lib.hid aS;clear rJ iO gG av gS ho eB ae aL vX ue
     cases o with
     |some j =>
      simp only[a8n]at hle;have fC:(0:Int)<=(j:Int):=oM;by_cases hj:j=st.left
      ·subst hj
       have gi:((st.left:Int) != (st.left:Int))=false:=by simp
       have zu:=Lib.hid (aF.out ⟨st.want,st.left+1,id::st.last⟩ (aS.out.trans vM));clear aS aK aF hr aB hc;go_upto_region 12 with fail;refine e2g λp=> ?_
       go_wp2_with fail;go_roundw
       case rel=>exact⟨k+1,⟨st.want,st.left+1,id::st.last⟩,oM,by go_num,by go_num,zu,a0r rL (Go.below_growBy _ _),Gs.trans ((Go.below_growBy _ _).mono (Nat.le_trans gI ic))⟩
       case measure=>simp[intOf];omega
      ·have gi:((j:Int) != (st.left:Int))=true:=by simp;omega
       obtain rfl:r=false:=aK.out (aS.out.trans (by simp[hj]));have gR:=qh.bel;have uU:=gR.size;clear aS aK aF hr aB hc hj;go_upto_region 12 with fail;refine e2g λp=> ?_
       go_wp2_with fail;go_ret;exact⟨rfl,Go.below_growBy' gR uU _⟩
     |none =>
      simp only[a8n]at hle;go_upto_region 12 with fail;refine e2g λp=> ?_
      have rM:=qh.up (Go.below_growBy wx p);have jO:=a0r rL (Go.below_growBy wx p);have rN:=Gs.trans ((Go.below_growBy wx p).mono (Nat.le_trans gI ic));have fN:Below fZ.heap.size fZ (wx.growBy p):=bA.trans ((Go.below_growBy wx p).mono ic);obtain⟨ji,lH⟩:=zE (wx.growBy p);rw[lH]at rM jO rN fN ⊢;clear lH rL Gs qh hle q0 q1 q2 e1 hc bA ic;have KW:n2<=ji.heap.size:=by have:=rN.size;omega
      obtain⟨-,⟨eE,eF,eG,eH,eI,eJ⟩,-⟩:=rM.cells;obtain⟨dL,e8,ff,gL,gN,gO,gP⟩:ji.cell? ⟨b,off+k*7,none⟩=some (.int .i64 id)/\ji.cell? ⟨b,off+k*7+1,none⟩=some (.int .i64 x)/\ji.cell? ⟨b,off+k*7+2,none⟩=some (.int .i64 y)/\ji.cell? ⟨b,off+k*7+3,none⟩=some (.string cls)/\ji.cell? ⟨b,off+k*7+4,none⟩=some (.string nm)/\ji.cell? ⟨b,off+k*7+5,none⟩=some (.int .i64 wt)/\ji.cell? ⟨b,off+k*7+6,none⟩=some (.int .i64 ds):=⟨a0e fN (aB 0 jM),a0e fN (aB 1 jM),a0e fN (aB 2 jM),a0e fN (aB 3 jM),a0e fN (aB 4 jM),a0e fN (aB 5 jM),a0e fN (aB 6 jM)⟩;clear fN aB;replace fR:=λW (_:Below ji.heap.size ji W)=>fR W
      obtain⟨nS,qO⟩:=zE (w.heap.size+1);rw[qO]at eE eF eG eH eI eJ;go_upto_region 17 with fail;rw[qO];refine Go.wp_region_rel 15 zM zM (λ_ W=>Below ji.heap.size ji W) (λw w'=>Below w.heap.size w w') (FPm nS k b off c8 ps s id x y wt ds cls nm on dl) (λ_ _ _ _ h g=>h.kept g) (zR _ _).drew ?step17 ?tail17
      case step17 =>
       clear aS et aK aF hr jO rN rM;intro i o hi ho c bb W hc hM hA hD K hK;match i,hi,ho with
       |0,_,ho =>
        exact yjf
       |1,_,ho =>
        exact ycb
       |2,_,ho =>
        exact yct
       |3,_,ho =>
        cases ho;have f59:=a0a (v:= .slice (some ⟨b,off,none⟩) ps.length c8) (a0b hD 1 59 zM rfl rfl);have f60:=a0a (v:= .int .i64 (k:Nat)) (a0b hD 2 60 zM rfl rfl);exact ybf
       |4,_,ho =>
        cases ho;have f61:=a0a (v:= .pointer (some ⟨b,off+k*7,none⟩)) (a0b hD 3 61 zM rfl rfl);exact yas
       |5,_,ho =>
        exact ycb
       |6,_,ho =>
        exact yct
       |7,_,ho =>
        cases ho;have f63:=a0a (v:= .slice (some ⟨b,off,none⟩) ps.length c8) (a0b hD 5 63 zM rfl rfl);have f64:=a0a (v:= .int .i64 (k:Nat)) (a0b hD 6 64 zM rfl rfl);exact ybf
       |8,_,ho =>
        cases ho;have f65:=a0a (v:= .pointer (some ⟨b,off+k*7,none⟩)) (a0b hD 7 65 zM rfl rfl);exact ybf
       |9,_,ho =>
        cases ho;have f66:=a0a (v:= .pointer (some ⟨b,off+k*7,none⟩)) (a0b hD 8 66 zM rfl rfl);exact yeg
       |10,_,ho =>
        cases ho;have f58:=a0a (v:= .agg #[.int .i64 s.ax,.int .i64 s.ay,.int .i64 s.st,.int .i64 s.w,.int .i64 s.h,.int .i64 s.g]) (a0b hD 0 58 zM rfl rfl);have f62:=a0a (v:= .agg #[.int .i64 id,.int .i64 x,.int .i64 y,.string cls,.string nm,.int .i64 wt,.int .i64 ds]) (a0b hD 4 62 zM rfl rfl);have f67:=a0a (v:= .int .i64 id) (a0b hD 9 67 zM rfl rfl);exact yda
       |11,_,ho =>
        cases ho;have f68:=a0b hD 10 68 zM rfl rfl;obtain⟨u,h1,h2⟩:=f68;have Aj:=a0a h1;exact yht
       |12,_,ho =>
        cases ho;have f57:=a0b hD 11 57 zM rfl rfl;obtain⟨u,h1,h2⟩:=f57;have SU:=a0a h1;exact yfc
       |13,_,ho =>
        cases ho;have f57:=a0b hD 11 57 zM rfl rfl;obtain⟨v,h1,h2⟩:=f57;have SU:=a0a h1;exact yka
       |14,_,ho =>
        cases ho;have f69:=a0b hD 12 69 zM rfl rfl;obtain⟨u,h1,h2⟩:=f69;have Vs:=a0a h1;exact yfc
       |i+15,hi,_=>exact absurd hi oM
      case tail17 =>
       intro bb W9 hM hA ah;obtain⟨xv,h13,gB,mC,ma⟩:=(show ∃u,bb.eval (.tmp 13)=u/\Lst dtE W9.heap.size W9 u dl/\Frm u dl.length/\Dts W9.heap.size W9 u dl from ah 14 oM _ _ rfl rfl);have h70:bb.eval (.tmp 70)= .bool on:=ah 13 oM _ _ rfl rfl;have aC:=hA.frame (rT 13 (rF 1 (rT 43 (rF 14 (rT 16 ([])))))) _ rfl zM;clear ah hA;obtain⟨f,hf⟩:=zDt bb;have NI:f 70= .bool on:=by rw[<-hf,<-h70];rfl
       have g13:f 13=xv:=by rw[<-hf,<-h13];rfl
       rw[hf]at aC;clear hf h70 h13;subst aC;simp only[rT,rF,a2d,NI,g13,Nat.reduceAdd];clear NI g13;simp only[zU];have cn:=rM.up hM;have DU:=rN.trans (hM.mono KW);have bQ:=a0r jO hM;have o8:n2<=W9.heap.size:=by have:=hM.size;omega
       clear dL e8 ff gL gN gO gP eE eF eG eH eI eJ fR hM jO rN rM ma
       cases on
       ·obtain rfl:r=false:=aK.out (aS.out.trans vM)
        have gR:=cn.bel;clear aS aK aF hr;exact ygd
       ·have zu:=Lib.hid (aF.out ⟨st.want++dl,st.left,id::st.last⟩ (aS.out.trans vM))
        clear aS aK aF hr;go_wp2_with (first
         |(at_builtin;refine El.allG a4t e0b qM _ _ qM n2 qM st.want bQ dl qM gB mC oM o8 ?_;intro v9 w9 aU bD br bj
           obtain⟨a9,n9,c9,rfl⟩:∃a n c,v9= .slice a n c:=by
            obtain⟨a,c,h,-⟩:=(a0d a4t aU uM).form;exact⟨_,_,_,h⟩))
        go_roundw
        case rel=>exact⟨_,_,_,_,⟨k+1,oM,rfl,⟨st.want++dl,st.left,id::st.last⟩,rfl,zu,aU,DU.trans br⟩,rfl,rfl,rfl,by go_num⟩
        case measure=>simp[intOf];omega
  ·obtain rfl:k=ps.length:=oM
   have aY:¬(ps.length:Int)<(ps.length:Int):=oM;have dC:=pz.out;rw[List.take_length]at dC;have sf:=hr.out.symm.trans (e1w dC);obtain⟨-,-,q0,q1,q2⟩:=vX.cells;have bR:=c1m _ (.slice da pl.dots.length dc) st.want pl.dots fZ (a0d a4t ae oM) ((ue.below aL).mono gI);have gR:=vX.bel;clear dC pz hr;by_cases hn:st.left=pl.left.length
   ·have Gq:((st.left:Int)==(pl.left.length:Int))=true:=by simp[hn]
    have EV:decide (st.want=pl.dots)=r:=by rw[sf,decide_eq_true hn,Bool.true_and]
    rw[EV]at bR;clear sf EV hn;go_wp2_with (go_at_call 26;refine(bR).mono ?_;rintro e w'⟨rfl,al⟩;obtain⟨p,rfl⟩:=a0c al;clear al);go_ret;exact⟨rfl,Go.below_growBy' gR gR.size _⟩
   ·have Gq:((st.left:Int)==(pl.left.length:Int))=false:=by simp;omega
    obtain rfl:r=false:=by rw[sf,decide_eq_false hn,Bool.false_and]
    clear sf hn bR;exact ygd
end
end Go.Proofs.YtfocdbjceedagaaGreatDoor
