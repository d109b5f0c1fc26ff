/-
  Parts.
-/
import Derived.Test.YtfocdbjceedagaaGreatDoorCak
set_option linter.unusedVariables false
set_option linter.unusedSimpArgs false
set_option maxHeartbeats 8000000
set_option maxRecDepth 100000
namespace Go.Proofs.YtfocdbjceedagaaGreatDoor
open Tryz
section
open Go.RowKit Go.Shelf
variable{g g':BS}{E H N ci i j:Nat}{ev sv v:Vu}{w w':Wd}
def FMa (ev sv:Vu)(ci j N H E:Nat)(i:Nat)(v:Vu)(g:BS)(w:Wd):Prop :=
 match i with
 |0=>v=ev
 |1=>v=sv
 |2=>v= .int .i64 (ci:Nat)
 |3=>v= .int .i64 (j:Nat)
 |4=>Pt2 v
 |5=>v=sv
 |6=>v= .int .i64 (ci:Nat)
 |7=>v= .int .i64 ((ci:Nat)+1)
 |8=>v= .int .i64 (j:Nat)
 |9=>Pt2 v
 |10=>v= .pointer (some ⟨E,0,none⟩)
 |11=>∃n,SL g w 26 v n/\n<=6
 |12=>Six v
 |13=>v= .int .i64 (1+(N:Nat))
 |14=>v= .int .i64 (H:Nat)
 |15=>v= .int .i64 (ci:Nat)
 |16=>v= .int .i64 (j:Nat)
 |17=>e0n v
 |18=>Six v
 |19=>v= .int .i64 (1+(N:Nat))
 |20=>v= .int .i64 (H:Nat)
 |21=>v= .int .i64 (ci:Nat)
 |22=>v= .int .i64 (j:Nat)
 |23=>v= .int .i64 ((j:Nat)-1)
 |24=>e0n v
 |25=>v= .pointer (some ⟨E,0,none⟩)
 |_=>False
theorem FMa.kept (h:FMa ev sv ci j N H E i v g w)(hg:Ev (b1b E) g w g' w'):FMa ev sv ci j N H E i v g' w':=by
 unfold FMa at *;exact yki
def FMb (ev sv:Vu)(ci j N H E:Nat)(i:Nat)(v:Vu)(g:BS)(w:Wd):Prop :=
 match i with
 |0=>v=ev
 |1=>v=sv
 |2=>v= .int .i64 (ci:Nat)
 |3=>v= .int .i64 (j:Nat)
 |4=>Pt2 v
 |5=>v=sv
 |6=>v= .int .i64 (ci:Nat)
 |7=>v= .int .i64 (j:Nat)
 |8=>v= .int .i64 ((j:Nat)+1)
 |9=>Pt2 v
 |10=>v= .pointer (some ⟨E,0,none⟩)
 |11=>∃n,SL g w 26 v n/\n<=6
 |12=>Six v
 |13=>v= .int .i64 (1+(N:Nat))
 |14=>v= .int .i64 (H:Nat)
 |15=>v= .int .i64 (ci:Nat)
 |16=>v= .int .i64 ((ci:Nat)-1)
 |17=>v= .int .i64 (j:Nat)
 |18=>e0n v
 |19=>Six v
 |20=>v= .int .i64 (1+(N:Nat))
 |21=>v= .int .i64 (H:Nat)
 |22=>v= .int .i64 (ci:Nat)
 |23=>v= .int .i64 (j:Nat)
 |24=>e0n v
 |25=>v= .pointer (some ⟨E,0,none⟩)
 |_=>False
theorem FMb.kept (h:FMb ev sv ci j N H E i v g w)(hg:Ev (b1b E) g w g' w'):FMb ev sv ci j N H E i v g' w':=by
 unfold FMb at *;exact yki
theorem d0q (lv:Vu)(rows:List (Value×List Int))(w:Wd)(hM:Mat w.heap.size w lv rows):
 Calls prog 71 #[lv] w λe w'=>∃S' ev fv,e= .returned (.tuple #[ev,fv])/\(∃m n,SL S' w' 206 ev m/\m<=30/\SL S' w' 140 fv n/\n<=200)/\Ev noB noB w S' w':=by
 obtain⟨la,ar,rfl,eU,ae⟩:=hM;go_enter func71,ntmps71;go_upto_if 23 with fail;go_cut [4] (λv wx=>(∃a xs cap,v= .slice a (List.length xs) cap/\Intz w.heap.size w v xs)/\Same1 w wx)
 case first =>
  by_cases h:0<rows.length
  ·obtain⟨b,off,rfl,hb,hc,hi⟩:=ae 0 h
   have hI:(0:Int)<(rows.length:Int):=oM;obtain⟨a',c',he,-⟩:=hi.ints;rw[he]at hc hi;rw[Nat.add_zero]at hc;exact yif
  ·exact yha
 case rest =>
 obtain⟨⟨qL,fs,qN,rfl,nE⟩,⟨aE⟩⟩:=hcut;subst aE;go_upto_if 29 with fail;go_cut [5] (λv wx=>(∃a xs cap,v= .slice a (List.length xs) cap/\Intz w.heap.size w v xs)/\Same1 w wx)
 case first =>
  by_cases h:1<rows.length
  ·obtain⟨b,off,rfl,hb,hc,hi⟩:=ae 1 h
   have hI:(1:Int)<(rows.length:Int):=oM;obtain⟨a',c',he,-⟩:=hi.ints;rw[he]at hc hi;exact yif
  ·exact yha
 case rest =>
 obtain⟨⟨P2,ss,P3,rfl,jo⟩,⟨aE⟩⟩:=hcut;subst aE;go_upto_if 35 with fail;go_cut [6] (λv wx=>(∃a xs cap,v= .slice a (List.length xs) cap/\Intz w.heap.size w v xs)/\Same1 w wx)
 case first =>
  by_cases h:2<rows.length
  ·obtain⟨b,off,rfl,hb,hc,hi⟩:=ae 2 h
   have hI:(2:Int)<(rows.length:Int):=oM;obtain⟨a',c',he,-⟩:=hi.ints;rw[he]at hc hi;exact yif
  ·exact yha
 case rest =>
 obtain⟨⟨Ml,ts,Mm,rfl,vA⟩,⟨aE⟩⟩:=hcut;subst aE;go_upto_region 9 with fail;clear ae;have om:TD noB w.heap.size w.heap.size (.slice qL fs.length qN) fs (w.alloc (.cells #[.slice qL fs.length qN,.int .i64 0] 137)):=by
  have hB:Below w.heap.size w (w.alloc (.cells #[.slice qL fs.length qN,.int .i64 0] 137)):=zC;exact⟨TW.none _,⟨0,Nat.zero_le _,Blk.new _ _ _⟩,nE.ints.below hB,yR _,nE.len,λ_ h=>h.elim,λh=>h⟩
 have tF:Ev noB noB w noB (w.alloc (.cells #[.slice qL fs.length qN,.int .i64 0] 137)):=Ev.of_below (TW.none _) zC;obtain⟨W0,eA⟩:=zE (w.alloc (.cells #[.slice qL fs.length qN,.int .i64 0] 137));rw[eA]at om tF;rw[eA];clear eA;obtain⟨D,hD⟩:=zE w.heap.size;have cV:TD noB w.heap.size D (.slice qL fs.length qN) fs W0:=by
  have h:=om;exact hD▸h
 rw[hD];have mF:w.heap.size<=D:=oM;clear om hD;go_upto_region 10 with(first
  |(go_at_call 73;refine(cV.call 3 oM oM).mono ?_;rintro e W1⟨q,rfl,q0,q1,fO,fg,xS⟩))
 have iH:=tF.wide xS (λb hb=>by cases hb;exact mF);clear fg xS tF cV;go_upto_if 49 with(first
  |(go_at_call 73;refine(fO.call 2 oM oM).mono ?_;rintro e W2⟨r,rfl,r0,r1,pI,cf,sy⟩))
 have xN:=iH.wide sy (λb hb=>by cases hb;exact mF);clear cf iH sy fO;obtain⟨N,rfl⟩:∃N:Nat,q=N:=⟨q.toNat,oM⟩;obtain⟨R,rfl⟩:∃R:Nat,r=R:=⟨r.toNat,oM⟩;go_cut [9] (λv wx=>(∃H:Nat,v= .int .i64 (H:Nat)/\1<=H/\H<=2)/\Same1 W2 wx)
 case first =>
  by_cases h:N=2
  ·subst h
   go_wp2_with fail;go_meet;exact⟨⟨1,rfl,oM,oM⟩,⟨rfl⟩⟩
  ·have hb:(1+(N:Int)==3)=false:=by simp;omega
   go_wp2_with fail;go_meet;exact⟨⟨1+R,by congr 1,oM,oM⟩,⟨rfl⟩⟩
 case rest =>
 obtain⟨⟨H,rfl,Um,G8⟩,⟨aE⟩⟩:=hcut;subst aE;go_wp2_with fail;have vB:M7 w D W2.heap.size (.slice qL fs.length qN) fs noB (W2.alloc (.cells #[.int .i64 0,.int .i64 0,.int .i64 0,.int .i64 0,.int .i64 0,.int .i64 0] 194)):=by
  have hB:Below W2.heap.size W2 (W2.alloc (.cells #[.int .i64 0,.int .i64 0,.int .i64 0,.int .i64 0,.int .i64 0,.int .i64 0] 194)):=zC;have hE:=Ev.of_below (X:=noB) pI.tw hB;have Un:=pI.lt;exact⟨pI.ev hE (λ_ h=>h.elim),⟨_,Blk.new _ _ _,rfl,λu hu=>by simp at hu;exact⟨0,hu,⟨jM,jM⟩⟩⟩,λh=>h,xN.size,oM,xN.trans hE⟩
 obtain⟨BO,qG⟩:=zE W2.heap.size;obtain⟨W3,ez⟩:=zE (W2.alloc (.cells #[.int .i64 0,.int .i64 0,.int .i64 0,.int .i64 0,.int .i64 0,.int .i64 0] 194));rw[qG,ez]at vB;rw[qG,ez];clear qG ez pI xN;go_loopw [11] (λv wr=>∃i:Nat,i<=N+1/\v= .int .i64 (i:Nat)/\M7 w D BO (.slice qL fs.length qN) fs noB wr) (λv _=>N+1-(intOf v).toNat)
 case atStart=>exact⟨0,Nat.zero_le _,rfl,vB⟩
 case round =>
  clear vB;obtain⟨i,hi,rfl,vB⟩:=hrel;by_cases ag:i<N+1
  ·have aA:(i:Int)<1+(N:Int):=oM
   as_aux_lemma =>
    go_wp2_with fail;go_loopw [12] (λv wr=>∃j:Nat,j<=H/\v= .int .i64 (j:Nat)/\M7 w D BO (.slice qL fs.length qN) fs noB wr) (λv _=>H-(intOf v).toNat)
    case atStart=>exact⟨0,Nat.zero_le _,rfl,vB⟩
    case round =>
     clear vB;obtain⟨j,hj,rfl,hm⟩:=hrel;by_cases pq:j<H
     ·have Dd:(j:Int)<(H:Int):=oM
      obtain⟨y,cy,fy⟩:=hm.ob.at_ (q:=i*2+j) oM;have fz:=hm.ob.frozen (i*2+j);go_upto_region 21 with fail;refine a0m (λW5 iq=> ?_);have tS:M7 w D BO (.slice qL fs.length qN) fs noB W5:=by
       rw[iq];exact hm.set _ zF
      clear iq hm cy fz;by_cases aT:i=0
      ·have FL:¬(0:Int)<(i:Int):=oM
       clear aT;go_upto_region 23 with fail;have hm:=tS;clear tS;exact yaj
      ·have FL:(0:Int)<(i:Int):=oM
       go_upto_if 76 with(first
        |(go_at_call 73;refine(tS.next 5 oM oM).mono ?_;rintro e W6⟨v1,rfl,v10,v11,lR,xG,jP⟩))
       clear tS xG jP;by_cases iI:v1=0
       ·subst iI
        obtain⟨i1,el⟩:∃i1,i=i1+1:=⟨i-1,oM⟩;have e1:(i:Int)-1=(i1:Int):=oM;have P4:i1<3:=oM;replace el:=Lib.hid el;obtain⟨y0,Li,GM⟩:=lR.ob.at_ (q:=i1*2+j) oM;obtain⟨y1,Lj,Aa⟩:=lR.ob.at_ (q:=i*2+j) oM;have fz:=lR.ob.frozen (i*2+j);go_upto_region 22 with fail;refine zR3 λp=> ?_
        have hm:=(lR.set (i*2+j) GM).up (below_growBy _ p);go_upto_region 23 with fail;clear lR Lj Aa Li fz e1 aT;exact yaj
       ·have pU:(v1==0)=false:=by simpa using iI
        go_upto_region 23 with fail;have hm:=lR;clear lR;exact yaj
     ·obtain rfl:j=H:=oM
      have aY:¬(j:Int)<(j:Int):=oM;go_wp2_with fail;go_roundw
      case rel=>exact⟨i+1,oM,by go_num,hm⟩
      case measure=>simp[intOf];omega
  ·have aY:¬((i:Int)<1+(N:Int)):=oM
   go_upto_region 26 with fail;have FM:=vB.third vA;obtain⟨E,hE⟩:=zE wr.heap.size;obtain⟨W4,cQ⟩:=zE (wr.alloc (.cells #[.slice Ml ts.length Mm,.int .i64 0] 137));rw[hE,cQ]at FM;rw[hE,cQ];clear hE cQ vB ag aY hi;as_aux_lemma =>
    obtain⟨fv,sC⟩:=zE (Value.slice qL fs.length qN);obtain⟨sv,bH⟩:=zE (Value.slice P2 ss.length P3);obtain⟨tv,xT⟩:=zE (Value.slice Ml ts.length Mm);rw[sC]at nE;rw[bH]at jo;rw[xT]at vA;rw[sC,xT]at FM;rw[sC,bH,xT];clear sC bH xT;go_wp2_with fail;go_loopw [14,15] (λv kk wr=>∃(j n:Nat) (S:BS),j<=H+1/\kk= .int .i64 (j:Nat)/\n<=3*j/\SL S wr 206 v n/\M8 w D BO fv fs E tv ts S wr) (λ_ kk _=>H+1-(intOf kk).toNat)
    case atStart=>exact⟨0,0,noB,Nat.zero_le _,rfl,oM,SL.nil _ _ _,FM⟩
    case round =>
     clear FM;obtain⟨j,n,S1,hj,rfl,hn,dm,hm⟩:=hrel;by_cases pq:j<=H
     ·have Dd:(j:Int)<=(H:Int):=oM
      go_wp2_with fail;go_loopw [14,16] (λv kk wr=>∃(i n:Nat) (S:BS),i<=N+1/\kk= .int .i64 (i:Nat)/\n<=3*j+i/\SL S wr 206 v n/\M8 w D BO fv fs E tv ts S wr) (λ_ kk _=>N+1-(intOf kk).toNat)
      case atStart=>exact⟨0,n,S1,oM,rfl,oM,dm,hm⟩
      case round =>
       clear hm dm hn;obtain⟨ci,n,S1,hi,rfl,hn,dm,hm⟩:=hrel;by_cases Ax:ci<N+1
       ·have xP:(ci:Int)<1+(N:Int):=oM
        go_upto_region 33 with fail;have pr:IntKind.i64.wrap ((ci:Int)+1)=ci+1:=a0j oM oM;have P6:IntKind.i64.wrap ((j:Int)+1)=j+1:=a0j oM oM;have Cz:IntKind.i64.wrap ((ci:Int)-1)=ci-1:=a0j oM oM;have H9:IntKind.i64.wrap ((j:Int)-1)=j-1:=a0j oM oM;obtain⟨ev,bC⟩:∃v,v=u14:=⟨_,rfl⟩;subst bC;refine Go.wp_region_reln 26 zM zM (λ_ S' W=>M8 w D BO fv fs E tv ts S' W/\Ev (b1b E) S1 wr S' W) (λS W S' W'=>Ev (b1b E) S W S' W') (FMa ev sv ci j N H E) (λ_ _ _ _ _ _ h g=>h.kept g) S1 ⟨hm.evo (Ev.drew hm.te.tw),Ev.drew hm.te.tw⟩ ?_ ?_
        ·clear dm hm hn vA
         intro k o hk ho c bb g W hc hM hA hD K hK;match k,hk,ho with
         |0,_,ho =>
          exact ygv
         |1,_,ho =>
          exact ycx
         |2,_,ho =>
          exact ycl
         |3,_,ho =>
          exact ycn
         |4,_,ho =>
          cases ho;have f118:=a0a (v:=sv) (a0f hD 1 118 zM rfl rfl);have f119:=a0a (v:= .int .i64 (ci:Nat)) (a0f hD 2 119 zM rfl rfl);have f120:=a0a (v:= .int .i64 (j:Nat)) (a0f hD 3 120 zM rfl rfl);exact yjo
         |5,_,ho =>
          exact ycx
         |6,_,ho =>
          exact ycl
         |7,_,ho =>
          cases ho;have f123:=a0a (v:= .int .i64 (ci:Nat)) (a0f hD 6 123 zM rfl rfl);go_simp;exact hK (.int .i64 ((ci:Nat)+1)) g W rfl (Ev.refl hM.1.te.tw) hM
         |8,_,ho =>
          exact ycn
         |9,_,ho =>
          cases ho;have f122:=a0a (v:=sv) (a0f hD 5 122 zM rfl rfl);have f124:=a0a (v:= .int .i64 ((ci:Nat)+1)) (a0f hD 7 124 zM rfl rfl);have f125:=a0a (v:= .int .i64 (j:Nat)) (a0f hD 8 125 zM rfl rfl);go_simp;refine(hM.1.node jo (ci+1) (j) oM oM oM oM).mono ?_;exact ybl
         |10,_,ho =>
          exact yby
         |11,_,ho =>
          cases ho;have f121:=a0f hD 4 121 zM rfl rfl;have f126:=a0f hD 9 126 zM rfl rfl;have f127:=a0a (v:= .pointer (some ⟨E,0,none⟩)) (a0f hD 10 127 zM rfl rfl);obtain⟨ax,ay,Ia,fa,fb⟩:=f121;obtain⟨bx,by_,Ib,fc,fd⟩:=f126;have f121:=a0a Ia;have f126:=a0a Ib;exact yff
         |12,_,ho =>
          exact yao
         |13,_,ho =>
          exact ycg
         |14,_,ho =>
          exact ycm
         |15,_,ho =>
          exact ycl
         |16,_,ho =>
          exact ycn
         |17,_,ho =>
          cases ho;have f129:=a0f hD 12 129 zM rfl rfl;have f130:=a0a (v:= .int .i64 (1+(N:Nat))) (a0f hD 13 130 zM rfl rfl);have f131:=a0a (v:= .int .i64 (H:Nat)) (a0f hD 14 131 zM rfl rfl);have f132:=a0a (v:= .int .i64 (ci:Nat)) (a0f hD 15 132 zM rfl rfl);have f133:=a0a (v:= .int .i64 (j:Nat)) (a0f hD 16 133 zM rfl rfl);obtain⟨x0,x1,x2,x3,x4,x5,Ic,q0,q1,q2,q3,q4,q5⟩:=f129;have f129:=a0a Ic;exact ydg
         |18,_,ho =>
          exact yao
         |19,_,ho =>
          exact ycg
         |20,_,ho =>
          exact ycm
         |21,_,ho =>
          exact ycl
         |22,_,ho =>
          exact ycn
         |23,_,ho =>
          cases ho;have f139:=a0a (v:= .int .i64 (j:Nat)) (a0f hD 22 139 zM rfl rfl);go_simp;exact hK (.int .i64 ((j:Nat)-1)) g W rfl (Ev.refl hM.1.te.tw) hM
         |24,_,ho =>
          cases ho;have f135:=a0f hD 18 135 zM rfl rfl;have f136:=a0a (v:= .int .i64 (1+(N:Nat))) (a0f hD 19 136 zM rfl rfl);have f137:=a0a (v:= .int .i64 (H:Nat)) (a0f hD 20 137 zM rfl rfl);have f138:=a0a (v:= .int .i64 (ci:Nat)) (a0f hD 21 138 zM rfl rfl);have f140:=a0a (v:= .int .i64 ((j:Nat)-1)) (a0f hD 23 140 zM rfl rfl);obtain⟨x0,x1,x2,x3,x4,x5,Ie,q0,q1,q2,q3,q4,q5⟩:=f135;have f135:=a0a Ie;exact ydg
         |25,_,ho =>
          exact yby
         |i+26,hi,_=>exact absurd hi oM
        ·intro bb S2 W hM hA ah
         have jq:=(show bb.eval (.tmp 117)=ev from ah 0 oM _ _ rfl rfl);obtain⟨q,iZ,hq⟩:=(show ∃n,SL S2 W 26 (bb.eval (.tmp 128)) n/\n<=6 from ah 11 oM _ _ rfl rfl);obtain⟨l,sX,fl⟩:=(show ∃x,bb.eval (.tmp 134)= .int .i64 x/\fits x from ah 17 oM _ _ rfl rfl);obtain⟨r,sY,fr⟩:=(show ∃x,bb.eval (.tmp 141)= .int .i64 x/\fits x from ah 24 oM _ _ rfl rfl);have sZ:=(show bb.eval (.tmp 142)= .pointer (some ⟨E,0,none⟩)from ah 25 oM _ _ rfl rfl);obtain⟨pv,kn⟩:=zE (bb.eval (.tmp 128));rw[kn]at iZ;have aC:=hA.frame (rT 117 (rF 26 (rT 65 ([])))) _ rfl zM;clear ah hA;obtain⟨f,hf⟩:=zDt bb;have g0:f 117=ev:=by rw[<-hf,<-jq];rfl
         have g1:f 128=pv:=by rw[<-hf,<-kn];rfl
         have g2:f 134= .int .i64 l:=by rw[<-hf,<-sX];rfl
         have g3:f 141= .int .i64 r:=by rw[<-hf,<-sY];rfl
         have g4:f 142= .pointer (some ⟨E,0,none⟩):=by rw[<-hf,<-sZ];rfl
         exact ybw
       ·obtain rfl:ci=N+1:=oM
        have aY:¬(((N+1:Nat):Int)<1+(N:Int)):=oM;exact yhd
     ·obtain rfl:j=H+1:=oM
      have aY:¬((H+1:Nat):Int)<=(H:Int):=oM;go_wp2_with fail;go_loopw [14,17] (λv kk wr=>∃(j n:Nat) (S:BS),j<=H/\kk= .int .i64 (j:Nat)/\n<=9+4*j/\SL S wr 206 v n/\M8 w D BO fv fs E tv ts S wr) (λ_ kk _=>H-(intOf kk).toNat)
      case atStart=>exact⟨0,n,S1,oM,rfl,oM,dm,hm⟩
      case round =>
       clear hm dm hn aY pq hj;obtain⟨j,n,S1,hj,rfl,hn,dm,hm⟩:=hrel;by_cases pq:j<H
       ·have Dd:(j:Int)<(H:Int):=oM
        go_wp2_with fail;go_loopw [14,18] (λv kk wr=>∃(i n:Nat) (S:BS),i<=N+2/\kk= .int .i64 (i:Nat)/\n<=9+4*j+i/\SL S wr 206 v n/\M8 w D BO fv fs E tv ts S wr) (λ_ kk _=>N+2-(intOf kk).toNat)
        case atStart=>exact⟨0,n,S1,oM,rfl,oM,dm,hm⟩
        case round =>
         clear hm dm hn;obtain⟨ci,n,S1,hi,rfl,hn,dm,hm⟩:=hrel;by_cases Ax:ci<=N+1
         ·have xP:(ci:Int)<=1+(N:Int):=oM
          go_upto_region 40 with fail;have pr:IntKind.i64.wrap ((ci:Int)+1)=ci+1:=a0j oM oM;have P6:IntKind.i64.wrap ((j:Int)+1)=j+1:=a0j oM oM;have Cz:IntKind.i64.wrap ((ci:Int)-1)=ci-1:=a0j oM oM;have H9:IntKind.i64.wrap ((j:Int)-1)=j-1:=a0j oM oM;obtain⟨ev,bC⟩:∃v,v=u14:=⟨_,rfl⟩;subst bC;refine Go.wp_region_reln 26 zM zM (λ_ S' W=>M8 w D BO fv fs E tv ts S' W/\Ev (b1b E) S1 wr S' W) (λS W S' W'=>Ev (b1b E) S W S' W') (FMb ev sv ci j N H E) (λ_ _ _ _ _ _ h g=>h.kept g) S1 ⟨hm.evo (Ev.drew hm.te.tw),Ev.drew hm.te.tw⟩ ?_ ?_
          ·clear dm hm hn vA
           intro k o hk ho c bb g W hc hM hA hD K hK;match k,hk,ho with
           |0,_,ho =>
            exact ygv
           |1,_,ho =>
            exact ycx
           |2,_,ho =>
            exact ych
           |3,_,ho =>
            exact ycj
           |4,_,ho =>
            cases ho;have f155:=a0a (v:=sv) (a0f hD 1 155 zM rfl rfl);have f156:=a0a (v:= .int .i64 (ci:Nat)) (a0f hD 2 156 zM rfl rfl);have f157:=a0a (v:= .int .i64 (j:Nat)) (a0f hD 3 157 zM rfl rfl);exact yjo
           |5,_,ho =>
            exact ycx
           |6,_,ho =>
            exact ych
           |7,_,ho =>
            exact ycj
           |8,_,ho =>
            cases ho;have f161:=a0a (v:= .int .i64 (j:Nat)) (a0f hD 7 161 zM rfl rfl);go_simp;exact hK (.int .i64 ((j:Nat)+1)) g W rfl (Ev.refl hM.1.te.tw) hM
           |9,_,ho =>
            cases ho;have f159:=a0a (v:=sv) (a0f hD 5 159 zM rfl rfl);have f160:=a0a (v:= .int .i64 (ci:Nat)) (a0f hD 6 160 zM rfl rfl);have f162:=a0a (v:= .int .i64 ((j:Nat)+1)) (a0f hD 8 162 zM rfl rfl);go_simp;refine(hM.1.node jo (ci) (j+1) oM oM oM oM).mono ?_;exact ybl
           |10,_,ho =>
            exact yby
           |11,_,ho =>
            cases ho;have f158:=a0f hD 4 158 zM rfl rfl;have f163:=a0f hD 9 163 zM rfl rfl;have f164:=a0a (v:= .pointer (some ⟨E,0,none⟩)) (a0f hD 10 164 zM rfl rfl);obtain⟨ax,ay,Ig,fa,fb⟩:=f158;obtain⟨bx,by_,Ih,fc,fd⟩:=f163;have f158:=a0a Ig;have f163:=a0a Ih;exact yff
           |12,_,ho =>
            exact yao
           |13,_,ho =>
            exact ycg
           |14,_,ho =>
            exact ycm
           |15,_,ho =>
            exact ych
           |16,_,ho =>
            cases ho;have f169:=a0a (v:= .int .i64 (ci:Nat)) (a0f hD 15 169 zM rfl rfl);go_simp;exact hK (.int .i64 ((ci:Nat)-1)) g W rfl (Ev.refl hM.1.te.tw) hM
           |17,_,ho =>
            exact ycj
           |18,_,ho =>
            cases ho;have f166:=a0f hD 12 166 zM rfl rfl;have f167:=a0a (v:= .int .i64 (1+(N:Nat))) (a0f hD 13 167 zM rfl rfl);have f168:=a0a (v:= .int .i64 (H:Nat)) (a0f hD 14 168 zM rfl rfl);have f170:=a0a (v:= .int .i64 ((ci:Nat)-1)) (a0f hD 16 170 zM rfl rfl);have f171:=a0a (v:= .int .i64 (j:Nat)) (a0f hD 17 171 zM rfl rfl);obtain⟨x0,x1,x2,x3,x4,x5,Ii,q0,q1,q2,q3,q4,q5⟩:=f166;have f166:=a0a Ii;exact ydg
           |19,_,ho =>
            exact yao
           |20,_,ho =>
            exact ycg
           |21,_,ho =>
            exact ycm
           |22,_,ho =>
            exact ych
           |23,_,ho =>
            exact ycj
           |24,_,ho =>
            cases ho;have f173:=a0f hD 19 173 zM rfl rfl;have f174:=a0a (v:= .int .i64 (1+(N:Nat))) (a0f hD 20 174 zM rfl rfl);have f175:=a0a (v:= .int .i64 (H:Nat)) (a0f hD 21 175 zM rfl rfl);have f176:=a0a (v:= .int .i64 (ci:Nat)) (a0f hD 22 176 zM rfl rfl);have f177:=a0a (v:= .int .i64 (j:Nat)) (a0f hD 23 177 zM rfl rfl);obtain⟨x0,x1,x2,x3,x4,x5,Ij,q0,q1,q2,q3,q4,q5⟩:=f173;have f173:=a0a Ij;exact ydg
           |25,_,ho =>
            exact yby
           |i+26,hi,_=>exact absurd hi oM
          ·intro bb S2 W hM hA ah
           have jq:=(show bb.eval (.tmp 154)=ev from ah 0 oM _ _ rfl rfl);obtain⟨q,iZ,hq⟩:=(show ∃n,SL S2 W 26 (bb.eval (.tmp 165)) n/\n<=6 from ah 11 oM _ _ rfl rfl);obtain⟨l,sX,fl⟩:=(show ∃x,bb.eval (.tmp 172)= .int .i64 x/\fits x from ah 18 oM _ _ rfl rfl);obtain⟨r,sY,fr⟩:=(show ∃x,bb.eval (.tmp 178)= .int .i64 x/\fits x from ah 24 oM _ _ rfl rfl);have sZ:=(show bb.eval (.tmp 179)= .pointer (some ⟨E,0,none⟩)from ah 25 oM _ _ rfl rfl);obtain⟨pv,kn⟩:=zE (bb.eval (.tmp 165));rw[kn]at iZ;have aC:=hA.frame (rT 154 (rF 26 (rT 28 ([])))) _ rfl zM;clear ah hA;obtain⟨f,hf⟩:=zDt bb;have g0:f 154=ev:=by rw[<-hf,<-jq];rfl
           have g1:f 165=pv:=by rw[<-hf,<-kn];rfl
           have g2:f 172= .int .i64 l:=by rw[<-hf,<-sX];rfl
           have g3:f 178= .int .i64 r:=by rw[<-hf,<-sY];rfl
           have g4:f 179= .pointer (some ⟨E,0,none⟩):=by rw[<-hf,<-sZ];rfl
           exact ybw
         ·obtain rfl:ci=N+2:=oM
          have aY:¬(((N+2:Nat):Int)<=1+(N:Int)):=oM;exact yhd
       ·obtain rfl:j=H:=oM
        have aY:¬(j:Int)<(j:Int):=oM;go_upto_if 183 with(first
         |(go_at_call 73;refine(hm.next 2 oM oM).mono ?_;rintro e W5⟨d1,rfl,d10,d11,tS,vz,Mn⟩))
        have oI:=Mn.sl dm;clear hm dm vz Mn;by_cases hd:d1=1
        ·subst hd
         go_upto_region 43 with(first
          |(go_at_call 73;refine(tS.next (1+(N:Int)) oM oM).mono ?_;rintro e W6⟨x,rfl,x0,x1,lR,xG,jP⟩))
         have De:=jP.sl oI;clear tS oI xG jP;go_upto_region 44 with(first
          |(go_at_call 73;refine(lR.next (j:Int) oM oM).mono ?_;rintro e W7⟨y,rfl,y0,y1,Ad,nZ,Mo⟩))
         have Df:=Mo.sl De;clear lR De nZ Mo;obtain⟨x,rfl⟩:∃n:Nat,x=n:=⟨x.toNat,oM⟩;obtain⟨y,rfl⟩:∃n:Nat,y=n:=⟨y.toNat,oM⟩;obtain⟨z,cz,fz⟩:=Ad.m7.ob.at_ (q:=x*2+y) oM;go_upto_region 45 with(first
          |(go_at_call 130;refine(Ad.island u14 n Df oM _ _ _ zF zF fz).mono ?_;rintro e W8⟨S8,v8,rfl,⟨nF,uV,P7⟩,GX,P8⟩))
         clear Ad Df P8 cz;exact yeh
        ·have Mp:(d1==1)=false:=by simpa using hd
         go_upto_region 45 with fail;have GX:=tS;have uV:=oI;obtain⟨nF,P9⟩:=zE n;rw[P9]at uV;clear tS oI;exact yeh
end
end Go.Proofs.YtfocdbjceedagaaGreatDoor
