/-
  Parts.
-/
import Derived.Test.YteijfnkidefekaaGreatEbc
set_option linter.unusedVariables false
set_option linter.unusedSimpArgs false
set_option linter.unusedSectionVars false
set_option maxHeartbeats 8000000
set_option maxRecDepth 100000
namespace Go.Proofs.YteijfnkidefekaaGreat
open Tryz
section
open Go.RowKit Go.Shelf
theorem c1v (lv:Vu)(rows:List (Value×List Int))(w:Wd)(hM:Mat w.heap.size w lv rows) :
 Calls prog 41 #[lv] w λe w'=>∃S' ev fv,e= .returned (.tuple #[ev,fv])/\(∃m n,SL S' w' 71 ev m/\m<=30/\SL S' w' 43 fv n/\n<=200)/\Ev noB noB w S' w':=by
 obtain⟨la,ak,rfl,dZ,ag⟩:=hM;go_enter func41,ntmps41;go_upto_if 23 with fail;go_cut [4] (λv wx=>(∃a xs cap,v= .slice a (List.length xs) cap/\Intz w.heap.size w v xs)/\Same1 w wx)
 case first =>
  by_cases h:0<rows.length
  ·obtain⟨b,off,rfl,hb,hc,hi⟩:=ag 0 h
   have hI:(0:Int)<(rows.length:Int):=xM;obtain⟨a',c',he,-⟩:=hi.ints;rw[he]at hc hi;rw[Nat.add_zero]at hc;exact yhr
  ·exact ygu
 case rest =>
 obtain⟨⟨od,fs,og,rfl,qm⟩,⟨bB⟩⟩:=hcut;subst bB;go_upto_if 29 with fail;go_cut [5] (λv wx=>(∃a xs cap,v= .slice a (List.length xs) cap/\Intz w.heap.size w v xs)/\Same1 w wx)
 case first =>
  by_cases h:1<rows.length
  ·obtain⟨b,off,rfl,hb,hc,hi⟩:=ag 1 h
   have hI:(1:Int)<(rows.length:Int):=xM;obtain⟨a',c',he,-⟩:=hi.ints;rw[he]at hc hi;exact yhr
  ·exact ygu
 case rest =>
 obtain⟨⟨Nv,ss,Nw,rfl,jP⟩,⟨bB⟩⟩:=hcut;subst bB;go_upto_if 35 with fail;go_cut [6] (λv wx=>(∃a xs cap,v= .slice a (List.length xs) cap/\Intz w.heap.size w v xs)/\Same1 w wx)
 case first =>
  by_cases h:2<rows.length
  ·obtain⟨b,off,rfl,hb,hc,hi⟩:=ag 2 h
   have hI:(2:Int)<(rows.length:Int):=xM;obtain⟨a',c',he,-⟩:=hi.ints;rw[he]at hc hi;exact yhr
  ·exact ygu
 case rest =>
 obtain⟨⟨I7,ts,I8,rfl,BI⟩,⟨bB⟩⟩:=hcut;subst bB;go_upto_region 9 with fail;clear ag;have ru:TD noB w.heap.size w.heap.size (.slice od fs.length og) fs (w.alloc (.cells #[.slice od fs.length og,.int .i64 0] 112)):=by
  have hB:Below w.heap.size w (w.alloc (.cells #[.slice od fs.length og,.int .i64 0] 112)):=zC;exact⟨TW.none _,⟨0,Nat.zero_le _,Blk.new _ _ _⟩,qm.ints.below hB,yR _,qm.len,λ_ h=>h.elim,λh=>h⟩
 have tH:Ev noB noB w noB (w.alloc (.cells #[.slice od fs.length og,.int .i64 0] 112)):=Ev.of_below (TW.none _) zC;obtain⟨W0,dH⟩:=zE (w.alloc (.cells #[.slice od fs.length og,.int .i64 0] 112));rw[dH]at ru tH;rw[dH];clear dH;obtain⟨D,hD⟩:=zE w.heap.size;have dy:TD noB w.heap.size D (.slice od fs.length og) fs W0:=by
  have h:=ru;exact hD▸h
 rw[hD];have mz:w.heap.size<=D:=xM;clear ru hD;go_upto_region 10 with(first
  |(go_at_call 43;refine(dy.call 3 xM xM).mono ?_;rintro e W1⟨q,rfl,q0,q1,b8,dL,Bn⟩))
 have gw:=tH.wide Bn (λb hb=>by cases hb;exact mz);clear dL Bn tH dy;go_upto_if 49 with(first
  |(go_at_call 43;refine(b8.call 2 xM xM).mono ?_;rintro e W2⟨r,rfl,r0,r1,gC,fM,ph⟩))
 have ub:=gw.wide ph (λb hb=>by cases hb;exact mz);clear fM gw ph b8;obtain⟨N,rfl⟩:∃N:Nat,q=N:=⟨q.toNat,xM⟩;obtain⟨R,rfl⟩:∃R:Nat,r=R:=⟨r.toNat,xM⟩;go_cut [9] (λv wx=>(∃H:Nat,v= .int .i64 (H:Nat)/\1<=H/\H<=2)/\Same1 W2 wx)
 case first =>
  by_cases h:N=2
  ·subst h
   go_wp2_with fail;go_meet;exact⟨⟨1,rfl,xM,xM⟩,⟨rfl⟩⟩
  ·have hb:(1+(N:Int)==3)=false:=by simp;omega
   go_wp2_with fail;go_meet;exact⟨⟨1+R,by congr 1,xM,xM⟩,⟨rfl⟩⟩
 case rest =>
 obtain⟨⟨H,rfl,QM,QN⟩,⟨bB⟩⟩:=hcut;subst bB;go_wp2_with fail;have ko:M7 w D W2.heap.size (.slice od fs.length og) fs noB (W2.alloc (.cells #[.int .i64 0,.int .i64 0,.int .i64 0,.int .i64 0,.int .i64 0,.int .i64 0] 158)):=by
  have hB:Below W2.heap.size W2 (W2.alloc (.cells #[.int .i64 0,.int .i64 0,.int .i64 0,.int .i64 0,.int .i64 0,.int .i64 0] 158)):=zC;have hE:=Ev.of_below (X:=noB) gC.tw hB;have QO:=gC.lt;exact⟨gC.ev hE (λ_ h=>h.elim),⟨_,Blk.new _ _ _,rfl,λu hu=>by simp at hu;exact⟨0,hu,⟨jM,jM⟩⟩⟩,λh=>h,ub.size,xM,ub.trans hE⟩
 obtain⟨BO,dW⟩:=zE W2.heap.size;obtain⟨W3,eP⟩:=zE (W2.alloc (.cells #[.int .i64 0,.int .i64 0,.int .i64 0,.int .i64 0,.int .i64 0,.int .i64 0] 158));rw[dW,eP]at ko;rw[dW,eP];clear dW eP gC ub;go_loopw [11] (λv wr=>∃i:Nat,i<=N+1/\v= .int .i64 (i:Nat)/\M7 w D BO (.slice od fs.length og) fs noB wr) (λv _=>N+1-(intOf v).toNat)
 case atStart=>exact⟨0,Nat.zero_le _,rfl,ko⟩
 case round =>
  clear ko;obtain⟨i,hi,rfl,ko⟩:=hrel;by_cases ab:i<N+1
  ·have aj:(i:Int)<1+(N:Int):=xM
   as_aux_lemma =>
    go_wp2_with fail;go_loopw [12] (λv wr=>∃j:Nat,j<=H/\v= .int .i64 (j:Nat)/\M7 w D BO (.slice od fs.length og) fs noB wr) (λv _=>H-(intOf v).toNat)
    case atStart=>exact⟨0,Nat.zero_le _,rfl,ko⟩
    case round =>
     clear ko;obtain⟨j,hj,rfl,hm⟩:=hrel;by_cases o8:j<H
     ·have ud:(j:Int)<(H:Int):=xM
      obtain⟨y,cy,fy⟩:=hm.ob.at_ (q:=i*2+j) xM;have fz:=hm.ob.frozen (i*2+j);go_upto_region 21 with fail;refine a0n (λW5 bL=> ?_);have er:M7 w D BO (.slice od fs.length og) fs noB W5:=by
       rw[bL];exact hm.set _ zF
      clear bL hm cy fz;by_cases bV:i=0
      ·have Nx:¬(0:Int)<(i:Int):=xM
       clear bV;go_upto_region 23 with fail;have hm:=er;clear er;exact yag
      ·have Nx:(0:Int)<(i:Int):=xM
       go_upto_if 76 with(first
        |(go_at_call 43;refine(er.next 5 xM xM).mono ?_;rintro e W6⟨v1,rfl,v10,v11,cD,sV,iA⟩))
       clear er sV iA;by_cases rA:v1=0
       ·subst rA
        obtain⟨i1,cq⟩:∃i1,i=i1+1:=⟨i-1,xM⟩;have e1:(i:Int)-1=(i1:Int):=xM;have Ny:i1<3:=xM;replace cq:=Lib.hid cq;obtain⟨y0,HT,CU⟩:=cD.ob.at_ (q:=i1*2+j) xM;obtain⟨y1,HU,vu⟩:=cD.ob.at_ (q:=i*2+j) xM;have fz:=cD.ob.frozen (i*2+j);go_upto_region 22 with fail;refine c5h λp=> ?_
        have hm:=(cD.set (i*2+j) CU).up (below_growBy _ p);go_upto_region 23 with fail;clear cD HU vu HT fz e1 bV;exact yag
       ·have pL:(v1==0)=false:=by simpa using rA
        go_upto_region 23 with fail;have hm:=cD;clear cD;exact yag
     ·obtain rfl:j=H:=xM
      have aT:¬(j:Int)<(j:Int):=xM;go_wp2_with fail;go_roundw
      case rel=>exact⟨i+1,xM,by go_num,hm⟩
      case measure=>simp[intOf];omega
  ·have aT:¬((i:Int)<1+(N:Int)):=xM
   go_upto_region 26 with fail;have BJ:=ko.third BI;obtain⟨E,hE⟩:=zE wr.heap.size;obtain⟨W4,cU⟩:=zE (wr.alloc (.cells #[.slice I7 ts.length I8,.int .i64 0] 112));rw[hE,cU]at BJ;rw[hE,cU];clear hE cU ko ab aT hi;as_aux_lemma =>
    obtain⟨fv,pE⟩:=zE (Value.slice od fs.length og);obtain⟨sv,bj⟩:=zE (Value.slice Nv ss.length Nw);obtain⟨tv,tR⟩:=zE (Value.slice I7 ts.length I8);rw[pE]at qm;rw[bj]at jP;rw[tR]at BI;rw[pE,tR]at BJ;rw[pE,bj,tR];clear pE bj tR;go_wp2_with fail;go_loopw [14,15] (λv kk wr=>∃(j n:Nat) (S:BS),j<=H+1/\kk= .int .i64 (j:Nat)/\n<=3*j/\SL S wr 71 v n/\M8 w D BO fv fs E tv ts S wr) (λ_ kk _=>H+1-(intOf kk).toNat)
    case atStart=>exact⟨0,0,noB,Nat.zero_le _,rfl,xM,SL.nil _ _ _,BJ⟩
    case round =>
     clear BJ;obtain⟨j,n,S1,hj,rfl,hn,cf,hm⟩:=hrel;by_cases o8:j<=H
     ·have ud:(j:Int)<=(H:Int):=xM
      go_wp2_with fail;go_loopw [14,16] (λv kk wr=>∃(i n:Nat) (S:BS),i<=N+1/\kk= .int .i64 (i:Nat)/\n<=3*j+i/\SL S wr 71 v n/\M8 w D BO fv fs E tv ts S wr) (λ_ kk _=>N+1-(intOf kk).toNat)
      case atStart=>exact⟨0,n,S1,xM,rfl,xM,cf,hm⟩
      case round =>
       clear hm cf hn;obtain⟨ci,n,S1,hi,rfl,hn,cf,hm⟩:=hrel;by_cases gZ:ci<N+1
       ·have s9:(ci:Int)<1+(N:Int):=xM
        go_upto_region 33 with fail;have DE:IntKind.i64.wrap ((ci:Int)+1)=ci+1:=a0p xM xM;have Nz:IntKind.i64.wrap ((j:Int)+1)=j+1:=a0p xM xM;have NA:IntKind.i64.wrap ((ci:Int)-1)=ci-1:=a0p xM xM;have qb:IntKind.i64.wrap ((j:Int)-1)=j-1:=a0p xM xM;obtain⟨ev,bg⟩:∃v,v=u14:=⟨_,rfl⟩;subst bg;refine Go.wp_region_reln 26 zM zM (λ_ S' W=>M8 w D BO fv fs E tv ts S' W/\Ev (a7d E) S1 wr S' W) (λS W S' W'=>Ev (a7d E) S W S' W') (FMa ev sv ci j N H E) (λ_ _ _ _ _ _ h g=>h.kept g) S1 ⟨hm.evo (Ev.drew hm.te.tw),Ev.drew hm.te.tw⟩ ?_ ?_
        ·clear cf hm hn BI
         intro k o hk ho c bb g W hc hM hA hD K hK;match k,hk,ho with
         |0,_,ho =>
          exact ygq
         |1,_,ho =>
          exact yct
         |2,_,ho =>
          exact ycg
         |3,_,ho =>
          exact ycj
         |4,_,ho =>
          cases ho;have f118:=a0a (v:=sv) (a0e hD 1 118 zM rfl rfl);have f119:=a0a (v:= .int .i64 (ci:Nat)) (a0e hD 2 119 zM rfl rfl);have f120:=a0a (v:= .int .i64 (j:Nat)) (a0e hD 3 120 zM rfl rfl);exact yip
         |5,_,ho =>
          exact yct
         |6,_,ho =>
          exact ycg
         |7,_,ho =>
          cases ho;have f123:=a0a (v:= .int .i64 (ci:Nat)) (a0e hD 6 123 zM rfl rfl);go_simp;exact hK (.int .i64 ((ci:Nat)+1)) g W rfl (Ev.refl hM.1.te.tw) hM
         |8,_,ho =>
          exact ycj
         |9,_,ho =>
          cases ho;have f122:=a0a (v:=sv) (a0e hD 5 122 zM rfl rfl);have f124:=a0a (v:= .int .i64 ((ci:Nat)+1)) (a0e hD 7 124 zM rfl rfl);have f125:=a0a (v:= .int .i64 (j:Nat)) (a0e hD 8 125 zM rfl rfl);go_simp;refine(hM.1.node jP (ci+1) (j) xM xM xM xM).mono ?_;exact ybi
         |10,_,ho =>
          exact ybt
         |11,_,ho =>
          cases ho;have f121:=a0e hD 4 121 zM rfl rfl;have f126:=a0e hD 9 126 zM rfl rfl;have f127:=a0a (v:= .pointer (some ⟨E,0,none⟩)) (a0e hD 10 127 zM rfl rfl);obtain⟨ax,ay,Fs,fa,fb⟩:=f121;obtain⟨bx,by_,Ft,fc,fd⟩:=f126;have f121:=a0a Fs;have f126:=a0a Ft;exact yeu
         |12,_,ho =>
          exact yal
         |13,_,ho =>
          exact yca
         |14,_,ho =>
          exact ych
         |15,_,ho =>
          exact ycg
         |16,_,ho =>
          exact ycj
         |17,_,ho =>
          cases ho;have f129:=a0e hD 12 129 zM rfl rfl;have f130:=a0a (v:= .int .i64 (1+(N:Nat))) (a0e hD 13 130 zM rfl rfl);have f131:=a0a (v:= .int .i64 (H:Nat)) (a0e hD 14 131 zM rfl rfl);have f132:=a0a (v:= .int .i64 (ci:Nat)) (a0e hD 15 132 zM rfl rfl);have f133:=a0a (v:= .int .i64 (j:Nat)) (a0e hD 16 133 zM rfl rfl);obtain⟨x0,x1,x2,x3,x4,x5,Fu,q0,q1,q2,q3,q4,q5⟩:=f129;have f129:=a0a Fu;exact ydh
         |18,_,ho =>
          exact yal
         |19,_,ho =>
          exact yca
         |20,_,ho =>
          exact ych
         |21,_,ho =>
          exact ycg
         |22,_,ho =>
          exact ycj
         |23,_,ho =>
          cases ho;have f139:=a0a (v:= .int .i64 (j:Nat)) (a0e hD 22 139 zM rfl rfl);go_simp;exact hK (.int .i64 ((j:Nat)-1)) g W rfl (Ev.refl hM.1.te.tw) hM
         |24,_,ho =>
          cases ho;have f135:=a0e hD 18 135 zM rfl rfl;have f136:=a0a (v:= .int .i64 (1+(N:Nat))) (a0e hD 19 136 zM rfl rfl);have f137:=a0a (v:= .int .i64 (H:Nat)) (a0e hD 20 137 zM rfl rfl);have f138:=a0a (v:= .int .i64 (ci:Nat)) (a0e hD 21 138 zM rfl rfl);have f140:=a0a (v:= .int .i64 ((j:Nat)-1)) (a0e hD 23 140 zM rfl rfl);obtain⟨x0,x1,x2,x3,x4,x5,Fv,q0,q1,q2,q3,q4,q5⟩:=f135;have f135:=a0a Fv;exact ydh
         |25,_,ho =>
          exact ybt
         |i+26,hi,_=>exact absurd hi xM
        ·intro bb S2 W hM hA aa
         have jz:=(show bb.eval (.tmp 117)=ev from aa 0 xM _ _ rfl rfl);obtain⟨q,jQ,hq⟩:=(show ∃n,SL S2 W 41 (bb.eval (.tmp 128)) n/\n<=6 from aa 11 xM _ _ rfl rfl);obtain⟨l,pS,fl⟩:=(show ∃x,bb.eval (.tmp 134)= .int .i64 x/\a0l x from aa 17 xM _ _ rfl rfl);obtain⟨r,pT,fr⟩:=(show ∃x,bb.eval (.tmp 141)= .int .i64 x/\a0l x from aa 24 xM _ _ rfl rfl);have pU:=(show bb.eval (.tmp 142)= .pointer (some ⟨E,0,none⟩)from aa 25 xM _ _ rfl rfl);obtain⟨pv,mR⟩:=zE (bb.eval (.tmp 128));rw[mR]at jQ;have az:=hA.frame (rT 117 (rF 26 (rT 65 ([])))) _ rfl zM;clear aa hA;obtain⟨f,hf⟩:=zDt bb;have g0:f 117=ev:=by rw[<-hf,<-jz];rfl
         have g1:f 128=pv:=by rw[<-hf,<-mR];rfl
         have g2:f 134= .int .i64 l:=by rw[<-hf,<-pS];rfl
         have g3:f 141= .int .i64 r:=by rw[<-hf,<-pT];rfl
         have g4:f 142= .pointer (some ⟨E,0,none⟩):=by rw[<-hf,<-pU];rfl
         exact ybs
       ·obtain rfl:ci=N+1:=xM
        have aT:¬(((N+1:Nat):Int)<1+(N:Int)):=xM;exact ygw
     ·obtain rfl:j=H+1:=xM
      have aT:¬((H+1:Nat):Int)<=(H:Int):=xM;go_wp2_with fail;go_loopw [14,17] (λv kk wr=>∃(j n:Nat) (S:BS),j<=H/\kk= .int .i64 (j:Nat)/\n<=9+4*j/\SL S wr 71 v n/\M8 w D BO fv fs E tv ts S wr) (λ_ kk _=>H-(intOf kk).toNat)
      case atStart=>exact⟨0,n,S1,xM,rfl,xM,cf,hm⟩
      case round =>
       clear hm cf hn aT o8 hj;obtain⟨j,n,S1,hj,rfl,hn,cf,hm⟩:=hrel;by_cases o8:j<H
       ·have ud:(j:Int)<(H:Int):=xM
        go_wp2_with fail;go_loopw [14,18] (λv kk wr=>∃(i n:Nat) (S:BS),i<=N+2/\kk= .int .i64 (i:Nat)/\n<=9+4*j+i/\SL S wr 71 v n/\M8 w D BO fv fs E tv ts S wr) (λ_ kk _=>N+2-(intOf kk).toNat)
        case atStart=>exact⟨0,n,S1,xM,rfl,xM,cf,hm⟩
        case round =>
         clear hm cf hn;obtain⟨ci,n,S1,hi,rfl,hn,cf,hm⟩:=hrel;by_cases gZ:ci<=N+1
         ·have s9:(ci:Int)<=1+(N:Int):=xM
          go_upto_region 40 with fail;have DE:IntKind.i64.wrap ((ci:Int)+1)=ci+1:=a0p xM xM;have Nz:IntKind.i64.wrap ((j:Int)+1)=j+1:=a0p xM xM;have NA:IntKind.i64.wrap ((ci:Int)-1)=ci-1:=a0p xM xM;have qb:IntKind.i64.wrap ((j:Int)-1)=j-1:=a0p xM xM;obtain⟨ev,bg⟩:∃v,v=u14:=⟨_,rfl⟩;subst bg;refine Go.wp_region_reln 26 zM zM (λ_ S' W=>M8 w D BO fv fs E tv ts S' W/\Ev (a7d E) S1 wr S' W) (λS W S' W'=>Ev (a7d E) S W S' W') (FMb ev sv ci j N H E) (λ_ _ _ _ _ _ h g=>h.kept g) S1 ⟨hm.evo (Ev.drew hm.te.tw),Ev.drew hm.te.tw⟩ ?_ ?_
          ·clear cf hm hn BI
           intro k o hk ho c bb g W hc hM hA hD K hK;match k,hk,ho with
           |0,_,ho =>
            exact ygq
           |1,_,ho =>
            exact yct
           |2,_,ho =>
            exact ycb
           |3,_,ho =>
            exact ycc
           |4,_,ho =>
            cases ho;have f155:=a0a (v:=sv) (a0e hD 1 155 zM rfl rfl);have f156:=a0a (v:= .int .i64 (ci:Nat)) (a0e hD 2 156 zM rfl rfl);have f157:=a0a (v:= .int .i64 (j:Nat)) (a0e hD 3 157 zM rfl rfl);exact yip
           |5,_,ho =>
            exact yct
           |6,_,ho =>
            exact ycb
           |7,_,ho =>
            exact ycc
           |8,_,ho =>
            cases ho;have f161:=a0a (v:= .int .i64 (j:Nat)) (a0e hD 7 161 zM rfl rfl);go_simp;exact hK (.int .i64 ((j:Nat)+1)) g W rfl (Ev.refl hM.1.te.tw) hM
           |9,_,ho =>
            cases ho;have f159:=a0a (v:=sv) (a0e hD 5 159 zM rfl rfl);have f160:=a0a (v:= .int .i64 (ci:Nat)) (a0e hD 6 160 zM rfl rfl);have f162:=a0a (v:= .int .i64 ((j:Nat)+1)) (a0e hD 8 162 zM rfl rfl);go_simp;refine(hM.1.node jP (ci) (j+1) xM xM xM xM).mono ?_;exact ybi
           |10,_,ho =>
            exact ybt
           |11,_,ho =>
            cases ho;have f158:=a0e hD 4 158 zM rfl rfl;have f163:=a0e hD 9 163 zM rfl rfl;have f164:=a0a (v:= .pointer (some ⟨E,0,none⟩)) (a0e hD 10 164 zM rfl rfl);obtain⟨ax,ay,Fw,fa,fb⟩:=f158;obtain⟨bx,by_,Fx,fc,fd⟩:=f163;have f158:=a0a Fw;have f163:=a0a Fx;exact yeu
           |12,_,ho =>
            exact yal
           |13,_,ho =>
            exact yca
           |14,_,ho =>
            exact ych
           |15,_,ho =>
            exact ycb
           |16,_,ho =>
            cases ho;have f169:=a0a (v:= .int .i64 (ci:Nat)) (a0e hD 15 169 zM rfl rfl);go_simp;exact hK (.int .i64 ((ci:Nat)-1)) g W rfl (Ev.refl hM.1.te.tw) hM
           |17,_,ho =>
            exact ycc
           |18,_,ho =>
            cases ho;have f166:=a0e hD 12 166 zM rfl rfl;have f167:=a0a (v:= .int .i64 (1+(N:Nat))) (a0e hD 13 167 zM rfl rfl);have f168:=a0a (v:= .int .i64 (H:Nat)) (a0e hD 14 168 zM rfl rfl);have f170:=a0a (v:= .int .i64 ((ci:Nat)-1)) (a0e hD 16 170 zM rfl rfl);have f171:=a0a (v:= .int .i64 (j:Nat)) (a0e hD 17 171 zM rfl rfl);obtain⟨x0,x1,x2,x3,x4,x5,Fy,q0,q1,q2,q3,q4,q5⟩:=f166;have f166:=a0a Fy;exact ydh
           |19,_,ho =>
            exact yal
           |20,_,ho =>
            exact yca
           |21,_,ho =>
            exact ych
           |22,_,ho =>
            exact ycb
           |23,_,ho =>
            exact ycc
           |24,_,ho =>
            cases ho;have f173:=a0e hD 19 173 zM rfl rfl;have f174:=a0a (v:= .int .i64 (1+(N:Nat))) (a0e hD 20 174 zM rfl rfl);have f175:=a0a (v:= .int .i64 (H:Nat)) (a0e hD 21 175 zM rfl rfl);have f176:=a0a (v:= .int .i64 (ci:Nat)) (a0e hD 22 176 zM rfl rfl);have f177:=a0a (v:= .int .i64 (j:Nat)) (a0e hD 23 177 zM rfl rfl);obtain⟨x0,x1,x2,x3,x4,x5,Fz,q0,q1,q2,q3,q4,q5⟩:=f173;have f173:=a0a Fz;exact ydh
           |25,_,ho =>
            exact ybt
           |i+26,hi,_=>exact absurd hi xM
          ·intro bb S2 W hM hA aa
           have jz:=(show bb.eval (.tmp 154)=ev from aa 0 xM _ _ rfl rfl);obtain⟨q,jQ,hq⟩:=(show ∃n,SL S2 W 41 (bb.eval (.tmp 165)) n/\n<=6 from aa 11 xM _ _ rfl rfl);obtain⟨l,pS,fl⟩:=(show ∃x,bb.eval (.tmp 172)= .int .i64 x/\a0l x from aa 18 xM _ _ rfl rfl);obtain⟨r,pT,fr⟩:=(show ∃x,bb.eval (.tmp 178)= .int .i64 x/\a0l x from aa 24 xM _ _ rfl rfl);have pU:=(show bb.eval (.tmp 179)= .pointer (some ⟨E,0,none⟩)from aa 25 xM _ _ rfl rfl);obtain⟨pv,mR⟩:=zE (bb.eval (.tmp 165));rw[mR]at jQ;have az:=hA.frame (rT 154 (rF 26 (rT 28 ([])))) _ rfl zM;clear aa hA;obtain⟨f,hf⟩:=zDt bb;have g0:f 154=ev:=by rw[<-hf,<-jz];rfl
           have g1:f 165=pv:=by rw[<-hf,<-mR];rfl
           have g2:f 172= .int .i64 l:=by rw[<-hf,<-pS];rfl
           have g3:f 178= .int .i64 r:=by rw[<-hf,<-pT];rfl
           have g4:f 179= .pointer (some ⟨E,0,none⟩):=by rw[<-hf,<-pU];rfl
           exact ybs
         ·obtain rfl:ci=N+2:=xM
          have aT:¬(((N+2:Nat):Int)<=1+(N:Int)):=xM;exact ygw
       ·obtain rfl:j=H:=xM
        have aT:¬(j:Int)<(j:Int):=xM;go_upto_if 183 with(first
         |(go_at_call 43;refine(hm.next 2 xM xM).mono ?_;rintro e W5⟨d1,rfl,d10,d11,er,Bu,I9⟩))
        have lT:=I9.sl cf;clear hm cf Bu I9;by_cases hd:d1=1
        ·subst hd
         go_upto_region 43 with(first
          |(go_at_call 43;refine(er.next (1+(N:Int)) xM xM).mono ?_;rintro e W6⟨x,rfl,x0,x1,cD,sV,iA⟩))
         have yY:=iA.sl lT;clear er lT sV iA;go_upto_region 44 with(first
          |(go_at_call 43;refine(cD.next (j:Int) xM xM).mono ?_;rintro e W7⟨y,rfl,y0,y1,vx,wm,Ja⟩))
         have yZ:=Ja.sl yY;clear cD yY wm Ja;obtain⟨x,rfl⟩:∃n:Nat,x=n:=⟨x.toNat,xM⟩;obtain⟨y,rfl⟩:∃n:Nat,y=n:=⟨y.toNat,xM⟩;obtain⟨z,cz,fz⟩:=vx.m7.ob.at_ (q:=x*2+y) xM;go_upto_region 45 with(first
          |(go_at_call 83;refine(vx.island u14 n yZ xM _ _ _ zF zF fz).mono ?_;rintro e W8⟨S8,v8,rfl,⟨nF,AU,NB⟩,jS,NC⟩))
         clear vx yZ NC cz;exact yed
        ·have BK:(d1==1)=false:=by simpa using hd
         go_upto_region 45 with fail;have jS:=er;have AU:=lT;obtain⟨nF,ND⟩:=zE n;rw[ND]at AU;clear er lT;exact yed
end
end Go.Proofs.YteijfnkidefekaaGreat
