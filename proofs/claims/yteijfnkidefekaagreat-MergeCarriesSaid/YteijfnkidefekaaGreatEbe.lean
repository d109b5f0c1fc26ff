/-
  Parts.
-/
import Derived.Test.YteijfnkidefekaaGreatEbd
set_option linter.unusedVariables false
set_option linter.unusedSimpArgs false
set_option linter.unusedSectionVars false
set_option maxHeartbeats 8000000
set_option maxRecDepth 100000
namespace Go.Proofs.YteijfnkidefekaaGreat
open Tryz
section
open Go.RowKit Go.Shelf
def c8t (w:Wd)(e:Ending)(w':Wd):Prop :=
 ∃S' ev fv wv pv l,e= .returned (.agg #[ev,fv,wv,pv])/\((∃n,SL S' w' 71 ev n/\n<=30)/\(∃n,SL S' w' 43 fv n/\n<=200)/\(∃n,SL S' w' 46 wv n/\n<=20))/\l.length<=6/\PlsOk l/\w'.ownsRow w.heap.size 48 7 pv l.length (l.flatMap plE.enc)/\(∀g,pv.ownBlock=some g->¬S' g)/\Ev noB noB w S' w'
theorem b5r (lv:Vu)(rows:List (Value×List Int))(w:Wd)(hM:Mat w.heap.size w lv rows) :
 Calls prog 15 #[lv] w λe w'=>c8t w e w':=by
 have nd:=hM;obtain⟨la,ak,rfl,dZ,-⟩:=hM;obtain⟨m,hm⟩:=zE (min rows.length 3);have oW:min (rows.length:Int) 3=(m:Nat):=xM;have ru:0<=(m:Int):=xM;have lU:(m:Int)<=(ak:Int):=xM;have mE:m<=ak:=xM;have ho:=((OW.init (TW.none w)).box c7t 32).box c7t 32;have ah:=ho.low;have bR:=((nd.below ah).mono ah.size).take m xM;simp only[World.size_alloc]at ho;replace hm:=Lib.hid hm;go_enter func15,ntmps15;go_upto_region 2 with fail;refine a0n (λW1 ao=> ?_);rw[<-ao]at ho bR;obtain⟨B2,gy⟩:=zE w.heap.size;obtain⟨B3,dF⟩:=zE (w.heap.size+1);rw[dF,gy]at ho;rw[dF,gy];have dC:w.heap.size<=B2:=xM;clear ao gy dF ah;go_upto_region 3 with(first
  |(go_at_call 41;(with_reducible refine(c1v _ _ W1 bR).mono ?_);rintro e W2⟨S1,ev,fv,rfl,⟨ne,nf,cT,an,jd,bZ⟩,eX⟩;obtain⟨ea,ec,rfl,-⟩:=cT.form;obtain⟨fa,fc,rfl,-⟩:=jd.form;have ze:=((ho.evo eX).add cT).add jd;obtain⟨z0,z1,z2,z3⟩:=a1o ze.b0;have NF:=ze.b0.frozen 0;have NG:=ze.b0.frozen 1))
 refine a0n (λW3 eP=> ?_);have wu:OW noB w S1 W3 [(B3,b1u (.slice ea ne ec) (.slice fa nf fc) (.slice none 0 0) (.slice none 0 0),32),(B2,c7t,32)] [(43,.slice fa nf fc,nf),(71,.slice ea ne ec,ne)]:=by
  rw[eP];exact(ze.set 0 _ rfl).set 1 _ rfl
 clear ho ze eP z0 z1 z2 z3 NF NG bR eX cT jd;have pF:=a6r (nd.below wu.low) 3;have mC:Calls prog 42 #[.slice la rows.length ak,.int .i64 3] W3 λe w'=>e= .returned (a9h rows 3)/\W3=w':=b1k _ W3 _ rows (nd.below wu.low) 3
 obtain⟨v3,lN⟩:=zE (a9h rows 3);obtain⟨x3,rU⟩:=zE (c5z rows 3);rw[lN]at pF mC;rw[rU]at pF;obtain⟨sa,sc,rfl⟩:∃a c,v3= .slice a x3.length c:=by
  obtain⟨⟨a,c,e,-⟩,-⟩:=pF;exact⟨a,c,e⟩
 clear lN rU;have hd:=wu.draw wu.lows (yR _) pF;go_upto_region 4 with(first
  |(go_at_call 42;(with_reducible refine mC.mono ?_);rintro e W'⟨rfl,rfl⟩))
 refine a0n (λW4 cU=> ?_);rw[<-cU]at hd;have mz:w.heap.size<=W3.heap.size:=wu.low.size;obtain⟨D,hD⟩:=zE W3.heap.size;obtain⟨sv,bj⟩:=zE (Value.slice sa x3.length sc);rw[hD,bj]at hd;rw[hD]at mz;rw[hD,bj];clear mC pF wu cU hD bj;go_wp2_with fail;go_loopw [5] (λkk wr=>∃k:Nat,k<=nf/\kk= .int .i64 (k:Nat)/\DY w.heap.size D sv x3 noB w S1 wr [(B3,b1u (.slice ea ne ec) (.slice fa nf fc) (.slice none 0 0) (.slice none 0 0),32),(B2,c7t,32)] [(43,.slice fa nf fc,nf),(71,.slice ea ne ec,ne)]) (λkk _=>nf-(intOf kk).toNat)
 case atStart=>exact⟨0,Nat.zero_le _,rfl,hd⟩
 case round =>
  clear hd;obtain⟨k,hk,rfl,hd⟩:=hrel;by_cases ab:k<nf
  ·have aj:(k:Int)<(nf:Int):=xM
   obtain⟨b,off,bk,bq,-,-⟩:=hd.s0.some_ xM;simp only[Value.slice.injEq,true_and]at bq;obtain⟨rfl,rfl⟩:=bq;obtain⟨m0,m1,m2,m3⟩:=a1o hd.b0;go_upto_region 8 with fail;clear m0 m1 m2 m3;have qU:Strs #[.string ⟨#[102,105,101,108,100]⟩,.string ⟨#[119,111,111,100]⟩,.string ⟨#[108,97,107,101]⟩]:=a6i [⟨#[102,105,101,108,100]⟩,⟨#[119,111,111,100]⟩,⟨#[108,97,107,101]⟩] jM;go_upto_region 9 with(first
    |(go_at_call 43;(with_reducible refine((hd.box _ _).call 3 xM xM).mono ?_);rintro e Wb⟨q,rfl,q0,q1,hb⟩;obtain⟨q,rfl⟩:=Int.eq_ofNat_of_zero_le q0;obtain⟨s1,wT,bU⟩:=qU.at_ hb.b0 (q:=q) uM;have jv:=hb.tail;obtain⟨u,cu,-⟩:=SL.cell jv.tw a1f jv.s0 ab 1 .str rfl;obtain⟨ai,zf⟩:=SL.store (X:=noB) jv.tw a1f jv.s0 k 1 .str rfl (.string s1) (CT.ok_str bU)))
   refine a0n (λWC qV=> ?_);have pM:=jv.evo ai;rw[<-qV]at pM;clear hd jv hb qV zf wT qU cu ai;have qW:Strs #[.string ⟨#[]⟩,.string ⟨#[]⟩,.string ⟨#[]⟩,.string ⟨#[77,111,111,114]⟩,.string ⟨#[72,111,108,109]⟩,.string ⟨#[78,111,114,116,104,32,77,111,111,114]⟩]:=a6i [⟨#[]⟩,⟨#[]⟩,⟨#[]⟩,⟨#[77,111,111,114]⟩,⟨#[72,111,108,109]⟩,⟨#[78,111,114,116,104,32,77,111,111,114]⟩] jM;go_upto_region 10 with(first
    |(go_at_call 43;(with_reducible refine((pM.box _ _).call 6 xM xM).mono ?_);rintro e Wd⟨q',rfl,wU,HP,hb⟩;obtain⟨q',rfl⟩:=Int.eq_ofNat_of_zero_le wU;obtain⟨s2,wV,cX⟩:=qW.at_ hb.b0 (q:=q') uM;have jw:=hb.tail;obtain⟨u',cu,-⟩:=SL.cell jw.tw a1f jw.s0 ab 2 .str rfl;obtain⟨ai,zf⟩:=SL.store (X:=noB) jw.tw a1f jw.s0 k 2 .str rfl (.string s2) (CT.ok_str cX)))
   refine a0n (λWE gD=> ?_);have lE:=jw.evo ai;rw[<-gD]at lE;clear pM jw hb gD zf wV qW cu ai;go_upto_region 11 with(first
    |(go_at_call 43;(with_reducible refine(lE.call 60 xM xM).mono ?_);rintro e Wf⟨t,rfl,t0,t1,jx⟩;obtain⟨u2,cu,-⟩:=SL.cell jx.tw a1f jx.s0 ab 3 .int rfl;obtain⟨ai,zf⟩:=SL.store (X:=noB) jx.tw a1f jx.s0 k 3 .int rfl (.int .i64 (1+t)) (CT.ok_int ⟨xM,xM⟩)))
   refine a0n (λWG qY=> ?_);have lF:=jx.evo ai;rw[<-qY]at lF;clear lE jx qY zf cu ai;go_upto_region 6 with(first
    |(go_at_call 43;(with_reducible refine(lF.call 4 xM xM).mono ?_);rintro e Wh⟨x,rfl,x0,x1,tX⟩)
    |(go_at_call 43;(with_reducible refine(tX.call 2 xM xM).mono ?_);rintro e Wi⟨y,rfl,y0,y1,nZ⟩;obtain⟨u3,cu,-⟩:=SL.cell nZ.tw a1f nZ.s0 ab 4 .int rfl;obtain⟨-,zf⟩:=SL.store (X:=noB) nZ.tw a1f nZ.s0 k 4 .int rfl (.int .i64 0) (CT.ok_int ⟨jM,jM⟩)))
   refine a0n (λWJ Jb=> ?_);have Bv:DY w.heap.size D sv x3 noB w S1 WJ [(B3,b1u (.slice ea ne ec) (.slice (some ⟨b,off,none⟩) nf fc) (.slice none 0 0) (.slice none 0 0),32),(B2,c7t,32)] [(43,.slice (some ⟨b,off,none⟩) nf fc,nf),(71,.slice ea ne ec,ne)]:=by
    rw[Jb];exact nZ.evo (SL.store (X:=noB) nZ.tw a1f nZ.s0 k 4 .int rfl _ (CT.ok_int zF)).1
   clear lF tX nZ Jb zf cu;go_wp2_with fail;go_roundw
   case rel=>exact⟨k+1,xM,by go_num,Bv⟩
   case measure=>simp[intOf];omega
  ·have aT:¬(k:Int)<(nf:Int):=xM
   obtain⟨m0,m1,m2,m3⟩:=a1o hd.b0;have ho:=hd.ow (TW.none w) mz;go_upto_region 12 with fail;clear hd m0 m1 m2 m3 ab aT;have Jc:=a6r (nd.below ho.low) 4;have Bm:Calls prog 42 #[.slice la rows.length ak,.int .i64 4] wr λe w'=>e= .returned (a9h rows 4)/\wr=w':=b1k _ wr _ rows (nd.below ho.low) 4
   go_upto_region 13 with(first
    |(go_at_call 42;(with_reducible refine Bm.mono ?_);rintro e W'⟨rfl,rfl⟩)
    |(go_at_call 44;(with_reducible refine(b8o _ S1 wr ho.tw ho.lows ho.low.size _ _ Jc).mono ?_);rintro e W5⟨S5,wv,rfl,⟨nw,ue,je⟩,zg⟩;obtain⟨wa,wc,rfl,-⟩:=ue.form;have BV:=(ho.evo zg).add ue;obtain⟨z0,z1,z2,z3⟩:=a1o BV.b0;have zf:=BV.b0.frozen 2))
   refine a0n (λW6 fU=> ?_);have zh:=BV.put fU (c':=b1u (.slice ea ne ec) (.slice fa nf fc) (.slice wa nw wc) (.slice none 0 0)) rfl;clear ho BV zg ue fU Jc Bm z0 z1 z2 z3 zf;have BF:=nd.below zh.low;have zi:=zh.low.size;obtain⟨m0,m1,m2,m3⟩:=a1o zh.b0;first|with_reducible refine a0k 3 zM zM ?_|with_reducible refine a0m 3 zM zM ?_
   simp only[zT];repeat(first|go_big_quiet_step ((go_at_call 42;exact Calls.grow_of_same (b1k w.heap.size _ _ rows (BF.below ((Go.below_growBy _ _).mono zi)) 5)))|quiet_step ((go_at_call 42;exact Calls.grow_of_same (b1k w.heap.size _ _ rows (BF.below ((Go.below_growBy _ _).mono zi)) 5))))
   refine wpQuiet_nil ?_;intro _ bI;obtain⟨p,bI⟩:=bI;subst bI;have qo:=zh.up (Go.below_growBy W6 p);have Jd:=a6r (nd.below qo.low) 5;clear m0 m1 m2 m3 zh BF;go_upto_region 14 with(first
    |(go_at_call 45;(with_reducible refine(b1l w.heap.size S5 _ qo.tw qo.lows qo.low.size _ _ Jd _ _ ne nf qo.s2 (Nat.le_trans an jM) qo.s1 bZ _ _ _ _ _ _).mono ?_);rintro e W8⟨S8,pv,l,rfl,BW,iZ,pG,yh,zj⟩;replace pG:=b3u pG qo.low.size;obtain⟨pa,pc,rfl,-⟩:=(a0g a2n pG xM).form;have zk:=qo.evo zj;obtain⟨z0,z1,z2,z3⟩:=a1o zk.b0;have zf:=zk.b0.frozen 3))
   refine a0n (λW9 iB=> ?_);have bG:W9.ownsRow w.heap.size 48 7 (.slice pa l.length pc) l.length (l.flatMap plE.enc):=by
    rw[iB];exact pG.kept (a0u _ B3 3 _) (.inr (a2e pG zk.b0 jM))
   have nt:=zk.put iB (c':=b1u (.slice ea ne ec) (.slice fa nf fc) (.slice wa nw wc) (.slice pa l.length pc)) rfl;clear qo zk zj pG iB Jd z0 z1 z2 z3 zf;obtain⟨z0,z1,z2,z3⟩:=a1o nt.b0;obtain⟨y0,y1,y2,y3⟩:=a1o nt.b1;have f0:=nt.b1.frozen 0;have f1:=nt.b1.frozen 1;have f2:=nt.b1.frozen 2;have f3:=nt.b1.frozen 3;have FA:=nt.swap;have uf:=bG.kept (a0u _ B2 0 (.slice ea ne ec)) (.inr (a2e bG FA.b0 jM));have FB:=FA.set 0 (.slice ea ne ec) rfl;have FC:=uf.kept (a0u _ B2 1 (.slice fa nf fc)) (.inr (a2e uf FB.b0 jM));have FD:=FB.set 1 (.slice fa nf fc) rfl;have FE:=FC.kept (a0u _ B2 2 (.slice wa nw wc)) (.inr (a2e FC FD.b0 jM));have FF:=FD.set 2 (.slice wa nw wc) rfl;have mH:=FE.kept (a0u _ B2 3 (.slice pa l.length pc)) (.inr (a2e FE FF.b0 jM));have zl:=FF.set 3 (.slice pa l.length pc) (c':=b1u (.slice ea ne ec) (.slice fa nf fc) (.slice wa nw wc) (.slice pa l.length pc)) rfl;clear nt FA FB FD FF bG uf FC FE;go_wp2_with fail;exact bodyPost_ret (results_cell_row qM _ _ B2 32 _ (0,0) _ qM zl.b0 underlying32 qM zM) rfl ⟨S8,_,_,_,_,l,rfl,⟨⟨ne,zl.s2,an⟩,⟨nf,zl.s1,bZ⟩,⟨nw,zl.s0,je⟩⟩,BW,iZ,mH,yh,zl.ev⟩
end
end Go.Proofs.YteijfnkidefekaaGreat
