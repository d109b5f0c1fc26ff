/-
  Parts.
-/
import Derived.Test.YtfocdbjceedagaaGreatDoorMao
set_option linter.unusedVariables false
set_option linter.unusedSimpArgs false
set_option maxHeartbeats 8000000
set_option maxRecDepth 100000
namespace Go.Proofs.YtfocdbjceedagaaGreatDoor
open Tryz
section
open Go.RowKit Go.Shelf
attribute [local go_sem] Oper.semAt_some
attribute [local go_sem ↓] Go.wp_at_zero Go.wp_at_succ
variable{g g':BS}{E H N ci i j:Nat}{ev sv v:Value}{w w':World}
def FMa (ev sv:Value)(ci j N H E:Nat)(i:Nat)(v:Value)(g:BS)(w:World):Prop :=
 match i with
 |0=>v=ev
 |1=>v=sv
 |2=>v= .int .i64 (ci:Nat)
 |3=>v= .int .i64 (j:Nat)
 |4=>Pt2 v
 |5=>v=sv
 |6=>v= .int .i64 (ci:Nat)
 |7=>v= .int .i64 ((ci:Nat)+1)
 |8=>v= .int .i64 (j:Nat)
 |9=>Pt2 v
 |10=>v= .pointer (some ⟨E,0,none⟩)
 |11=>∃n,SL g w 26 v n/\n<=6
 |12=>Six v
 |13=>v= .int .i64 (1+(N:Nat))
 |14=>v= .int .i64 (H:Nat)
 |15=>v= .int .i64 (ci:Nat)
 |16=>v= .int .i64 (j:Nat)
 |17=>d8d v
 |18=>Six v
 |19=>v= .int .i64 (1+(N:Nat))
 |20=>v= .int .i64 (H:Nat)
 |21=>v= .int .i64 (ci:Nat)
 |22=>v= .int .i64 (j:Nat)
 |23=>v= .int .i64 ((j:Nat)-1)
 |24=>d8d v
 |25=>v= .pointer (some ⟨E,0,none⟩)
 |_=>False
theorem FMa.kept (h:FMa ev sv ci j N H E i v g w)(hg:Ev (b0f E) g w g' w'):FMa ev sv ci j N H E i v g' w':=by
 unfold FMa at *;exact yje
def FMb (ev sv:Value)(ci j N H E:Nat)(i:Nat)(v:Value)(g:BS)(w:World):Prop :=
 match i with
 |0=>v=ev
 |1=>v=sv
 |2=>v= .int .i64 (ci:Nat)
 |3=>v= .int .i64 (j:Nat)
 |4=>Pt2 v
 |5=>v=sv
 |6=>v= .int .i64 (ci:Nat)
 |7=>v= .int .i64 (j:Nat)
 |8=>v= .int .i64 ((j:Nat)+1)
 |9=>Pt2 v
 |10=>v= .pointer (some ⟨E,0,none⟩)
 |11=>∃n,SL g w 26 v n/\n<=6
 |12=>Six v
 |13=>v= .int .i64 (1+(N:Nat))
 |14=>v= .int .i64 (H:Nat)
 |15=>v= .int .i64 (ci:Nat)
 |16=>v= .int .i64 ((ci:Nat)-1)
 |17=>v= .int .i64 (j:Nat)
 |18=>d8d v
 |19=>Six v
 |20=>v= .int .i64 (1+(N:Nat))
 |21=>v= .int .i64 (H:Nat)
 |22=>v= .int .i64 (ci:Nat)
 |23=>v= .int .i64 (j:Nat)
 |24=>d8d v
 |25=>v= .pointer (some ⟨E,0,none⟩)
 |_=>False
theorem FMb.kept (h:FMb ev sv ci j N H E i v g w)(hg:Ev (b0f E) g w g' w'):FMb ev sv ci j N H E i v g' w':=by
 unfold FMb at *;exact yje
theorem c9i (lv:Value)(rows:List (Value×List Int))(w:World)(hM:Mat w.heap.size w lv rows):
 Calls prog 71 #[lv] w λe w'=>∃S' ev fv,e= .returned (.tuple #[ev,fv])/\(∃m n,SL S' w' 206 ev m/\m<=30/\SL S' w' 140 fv n/\n<=200)/\Ev noB noB w S' w':=by
 obtain⟨la,lcap,rfl,hlc,hrow⟩:=hM;go_enter func71,ntmps71;go_upto_if 23 with fail;go_cut [4] (λv wx=>(∃a xs cap,v= .slice a (List.length xs) cap/\Intz w.heap.size w v xs)/\Same1 w wx)
 case first =>
  by_cases h:0<rows.length
  ·obtain⟨b,off,rfl,hb,hc,hi⟩:=hrow 0 h
   have hI:(0:Int)<(rows.length:Int):=oM;obtain⟨a',c',he,-⟩:=hi.ints;rw[he]at hc hi;rw[Nat.add_zero]at hc;exact yhi
  ·exact ygg
 case rest =>
 obtain⟨⟨afs,fs,cfs,rfl,hfs⟩,⟨hw1⟩⟩:=hcut;subst hw1;go_upto_if 29 with fail;go_cut [5] (λv wx=>(∃a xs cap,v= .slice a (List.length xs) cap/\Intz w.heap.size w v xs)/\Same1 w wx)
 case first =>
  by_cases h:1<rows.length
  ·obtain⟨b,off,rfl,hb,hc,hi⟩:=hrow 1 h
   have hI:(1:Int)<(rows.length:Int):=oM;obtain⟨a',c',he,-⟩:=hi.ints;rw[he]at hc hi;exact yhi
  ·exact ygg
 case rest =>
 obtain⟨⟨ass,ss,css,rfl,hss⟩,⟨hw1⟩⟩:=hcut;subst hw1;go_upto_if 35 with fail;go_cut [6] (λv wx=>(∃a xs cap,v= .slice a (List.length xs) cap/\Intz w.heap.size w v xs)/\Same1 w wx)
 case first =>
  by_cases h:2<rows.length
  ·obtain⟨b,off,rfl,hb,hc,hi⟩:=hrow 2 h
   have hI:(2:Int)<(rows.length:Int):=oM;obtain⟨a',c',he,-⟩:=hi.ints;rw[he]at hc hi;exact yhi
  ·exact ygg
 case rest =>
 obtain⟨⟨ats,ts,cts,rfl,hts⟩,⟨hw1⟩⟩:=hcut;subst hw1;go_upto_region 9 with fail;clear hrow;have hm0:TD noB w.heap.size w.heap.size (.slice afs fs.length cfs) fs (w.alloc (.cells #[.slice afs fs.length cfs,.int .i64 0] 137)):=by
  have hB:Below w.heap.size w (w.alloc (.cells #[.slice afs fs.length cfs,.int .i64 0] 137)):=zC;exact⟨TW.none _,⟨0,Nat.zero_le _,Blk.new _ _ _⟩,hfs.ints.below hB,yR _,hfs.len,λ_ h=>h.elim,λh=>h⟩
 have he0:Ev noB noB w noB (w.alloc (.cells #[.slice afs fs.length cfs,.int .i64 0] 137)):=Ev.of_below (TW.none _) zC;obtain⟨W0,hW0⟩:=zE (w.alloc (.cells #[.slice afs fs.length cfs,.int .i64 0] 137));rw[hW0]at hm0 he0;rw[hW0];clear hW0;obtain⟨D,hD⟩:=zE w.heap.size;have hm1:TD noB w.heap.size D (.slice afs fs.length cfs) fs W0:=by
  have h:=hm0;exact hD▸h
 rw[hD];have hDl:w.heap.size<=D:=oM;clear hm0 hD;go_upto_region 10 with(first
  |(go_at_call 73;refine(hm1.call 3 oM oM).mono ?_;rintro e W1⟨q,rfl,q0,q1,hm2,hg1,he1⟩))
 have he2:=he0.wide he1 (λb hb=>by cases hb;exact hDl);clear hg1 he1 he0 hm1;go_upto_if 49 with(first
  |(go_at_call 73;refine(hm2.call 2 oM oM).mono ?_;rintro e W2⟨r,rfl,r0,r1,hm3,hg2,he3⟩))
 have he4:=he2.wide he3 (λb hb=>by cases hb;exact hDl);clear hg2 he2 he3 hm2;obtain⟨N,rfl⟩:∃N:Nat,q=N:=⟨q.toNat,oM⟩;obtain⟨R,rfl⟩:∃R:Nat,r=R:=⟨r.toNat,oM⟩;go_cut [9] (λv wx=>(∃H:Nat,v= .int .i64 (H:Nat)/\1<=H/\H<=2)/\Same1 W2 wx)
 case first =>
  by_cases h:N=2
  ·subst h
   go_wp2_with fail;go_meet;exact⟨⟨1,rfl,oM,oM⟩,⟨rfl⟩⟩
  ·have hb:(1+(N:Int)==3)=false:=by simp;omega
   go_wp2_with fail;go_meet;exact⟨⟨1+R,by congr 1,oM,oM⟩,⟨rfl⟩⟩
 case rest =>
 obtain⟨⟨H,rfl,hH1,hH2⟩,⟨hw1⟩⟩:=hcut;subst hw1;go_wp2_with fail;have hmo:M7 w D W2.heap.size (.slice afs fs.length cfs) fs noB (W2.alloc (.cells #[.int .i64 0,.int .i64 0,.int .i64 0,.int .i64 0,.int .i64 0,.int .i64 0] 194)):=by
  have hB:Below W2.heap.size W2 (W2.alloc (.cells #[.int .i64 0,.int .i64 0,.int .i64 0,.int .i64 0,.int .i64 0,.int .i64 0] 194)):=zC;have hE:=Ev.of_below (X:=noB) hm3.tw hB;have hlD:=hm3.lt;exact⟨hm3.ev hE (λ_ h=>h.elim),⟨_,Blk.new _ _ _,rfl,λu hu=>by simp at hu;exact⟨0,hu,⟨jM,jM⟩⟩⟩,λh=>h,he4.size,oM,he4.trans hE⟩
 obtain⟨BO,hBO⟩:=zE W2.heap.size;obtain⟨W3,hW3⟩:=zE (W2.alloc (.cells #[.int .i64 0,.int .i64 0,.int .i64 0,.int .i64 0,.int .i64 0,.int .i64 0] 194));rw[hBO,hW3]at hmo;rw[hBO,hW3];clear hBO hW3 hm3 he4;go_loopw [11] (λv wr=>∃i:Nat,i<=N+1/\v= .int .i64 (i:Nat)/\M7 w D BO (.slice afs fs.length cfs) fs noB wr) (λv _=>N+1-(intOf v).toNat)
 case atStart=>exact⟨0,Nat.zero_le _,rfl,hmo⟩
 case round =>
  clear hmo;obtain⟨i,hi,rfl,hmo⟩:=hrel;by_cases hlt:i<N+1
  ·have hltI:(i:Int)<1+(N:Int):=oM
   as_aux_lemma =>
    go_wp2_with fail;go_loopw [12] (λv wr=>∃j:Nat,j<=H/\v= .int .i64 (j:Nat)/\M7 w D BO (.slice afs fs.length cfs) fs noB wr) (λv _=>H-(intOf v).toNat)
    case atStart=>exact⟨0,Nat.zero_le _,rfl,hmo⟩
    case round =>
     clear hmo;obtain⟨j,hj,rfl,hm⟩:=hrel;by_cases hlj:j<H
     ·have hljI:(j:Int)<(H:Int):=oM
      obtain⟨y,cy,fy⟩:=hm.ob.at_ (q:=i*2+j) oM;have fz:=hm.ob.frozen (i*2+j);go_upto_region 21 with fail;refine a0n (λW5 hW5=> ?_);have hm5:M7 w D BO (.slice afs fs.length cfs) fs noB W5:=by
       rw[hW5];exact hm.set _ zF
      clear hW5 hm cy fz;by_cases hi0:i=0
      ·have hip:¬(0:Int)<(i:Int):=oM
       clear hi0;go_upto_region 23 with fail;have hm:=hm5;clear hm5;exact yaj
      ·have hip:(0:Int)<(i:Int):=oM
       go_upto_if 76 with(first
        |(go_at_call 73;refine(hm5.next 5 oM oM).mono ?_;rintro e W6⟨v1,rfl,v10,v11,hm6,hg6,he6⟩))
       clear hm5 hg6 he6;by_cases hv1:v1=0
       ·subst hv1
        obtain⟨i1,hi1⟩:∃i1,i=i1+1:=⟨i-1,oM⟩;have e1:(i:Int)-1=(i1:Int):=oM;have hi1b:i1<3:=oM;replace hi1:=Lib.hid hi1;obtain⟨y0,cy0,fy0⟩:=hm6.ob.at_ (q:=i1*2+j) oM;obtain⟨y1,cy1,fy1⟩:=hm6.ob.at_ (q:=i*2+j) oM;have fz:=hm6.ob.frozen (i*2+j);go_upto_region 22 with fail;first|with_reducible refine a0f 9 zM zM ?_|with_reducible refine a0i 9 zM zM ?_
        simp only[zT];repeat(first|go_big_quiet_step (fail)|quiet_step (fail))
        refine wpQuiet_nil ?_;intro _ hw_;obtain⟨p,hw_⟩:=hw_;subst hw_;have hm:=(hm6.set (i*2+j) fy0).up (below_growBy _ p);go_upto_region 23 with fail;clear hm6 cy1 fy1 cy0 fz e1 hi0;exact yaj
       ·have hvb:(v1==0)=false:=by simpa using hv1
        go_upto_region 23 with fail;have hm:=hm6;clear hm6;exact yaj
     ·obtain rfl:j=H:=oM
      have hge:¬(j:Int)<(j:Int):=oM;go_wp2_with fail;go_roundw
      case rel=>exact⟨i+1,oM,by go_num,hm⟩
      case measure=>simp[intOf];omega
  ·have hge:¬((i:Int)<1+(N:Int)):=oM
   go_upto_region 26 with fail;have hm8:=hmo.third hts;obtain⟨E,hE⟩:=zE wr.heap.size;obtain⟨W4,hW4⟩:=zE (wr.alloc (.cells #[.slice ats ts.length cts,.int .i64 0] 137));rw[hE,hW4]at hm8;rw[hE,hW4];clear hE hW4 hmo hlt hge hi;as_aux_lemma =>
    obtain⟨fv,hfv⟩:=zE (Value.slice afs fs.length cfs);obtain⟨sv,hsv⟩:=zE (Value.slice ass ss.length css);obtain⟨tv,htv⟩:=zE (Value.slice ats ts.length cts);rw[hfv]at hfs;rw[hsv]at hss;rw[htv]at hts;rw[hfv,htv]at hm8;rw[hfv,hsv,htv];clear hfv hsv htv;go_wp2_with fail;go_loopw [14,15] (λv kk wr=>∃(j n:Nat) (S:BS),j<=H+1/\kk= .int .i64 (j:Nat)/\n<=3*j/\SL S wr 206 v n/\M8 w D BO fv fs E tv ts S wr) (λ_ kk _=>H+1-(intOf kk).toNat)
    case atStart=>exact⟨0,0,noB,Nat.zero_le _,rfl,oM,SL.nil _ _ _,hm8⟩
    case round =>
     clear hm8;obtain⟨j,n,S1,hj,rfl,hn,hsl,hm⟩:=hrel;by_cases hlj:j<=H
     ·have hljI:(j:Int)<=(H:Int):=oM
      go_wp2_with fail;go_loopw [14,16] (λv kk wr=>∃(i n:Nat) (S:BS),i<=N+1/\kk= .int .i64 (i:Nat)/\n<=3*j+i/\SL S wr 206 v n/\M8 w D BO fv fs E tv ts S wr) (λ_ kk _=>N+1-(intOf kk).toNat)
      case atStart=>exact⟨0,n,S1,oM,rfl,oM,hsl,hm⟩
      case round =>
       clear hm hsl hn;obtain⟨ci,n,S1,hi,rfl,hn,hsl,hm⟩:=hrel;by_cases hli:ci<N+1
       ·have hliI:(ci:Int)<1+(N:Int):=oM
        go_upto_region 33 with fail;have hwc:IntKind.i64.wrap ((ci:Int)+1)=ci+1:=a0k oM oM;have hwj:IntKind.i64.wrap ((j:Int)+1)=j+1:=a0k oM oM;have hwd:IntKind.i64.wrap ((ci:Int)-1)=ci-1:=a0k oM oM;have hwe:IntKind.i64.wrap ((j:Int)-1)=j-1:=a0k oM oM;obtain⟨ev,hev⟩:∃v,v=u14:=⟨_,rfl⟩;subst hev;refine Go.wp_region_reln 26 zM zM (λ_ S' W=>M8 w D BO fv fs E tv ts S' W/\Ev (b0f E) S1 wr S' W) (λS W S' W'=>Ev (b0f E) S W S' W') (FMa ev sv ci j N H E) (λ_ _ _ _ _ _ h g=>h.kept g) S1 ⟨hm.evo (Ev.drew hm.te.tw),Ev.drew hm.te.tw⟩ ?_ ?_
        ·clear hsl hm hn hts
         intro k o hk ho c bb g W hc hM hA hD K hK;match k,hk,ho with
         |0,_,ho =>
          exact ygc
         |1,_,ho =>
          exact ycv
         |2,_,ho =>
          exact ycg
         |3,_,ho =>
          exact yci
         |4,_,ho =>
          cases ho;have f118:=a0a (v:=sv) (a0d hD 1 118 zM rfl rfl);have f119:=a0a (v:= .int .i64 (ci:Nat)) (a0d hD 2 119 zM rfl rfl);have f120:=a0a (v:= .int .i64 (j:Nat)) (a0d hD 3 120 zM rfl rfl);exact yim
         |5,_,ho =>
          exact ycv
         |6,_,ho =>
          exact ycg
         |7,_,ho =>
          cases ho;have f123:=a0a (v:= .int .i64 (ci:Nat)) (a0d hD 6 123 zM rfl rfl);go_simp;exact hK (.int .i64 ((ci:Nat)+1)) g W rfl (Ev.refl hM.1.te.tw) hM
         |8,_,ho =>
          exact yci
         |9,_,ho =>
          cases ho;have f122:=a0a (v:=sv) (a0d hD 5 122 zM rfl rfl);have f124:=a0a (v:= .int .i64 ((ci:Nat)+1)) (a0d hD 7 124 zM rfl rfl);have f125:=a0a (v:= .int .i64 (j:Nat)) (a0d hD 8 125 zM rfl rfl);go_simp;refine(hM.1.node hss (ci+1) (j) oM oM oM oM).mono ?_;exact ybe
         |10,_,ho =>
          exact ybr
         |11,_,ho =>
          cases ho;have f121:=a0d hD 4 121 zM rfl rfl;have f126:=a0d hD 9 126 zM rfl rfl;have f127:=a0a (v:= .pointer (some ⟨E,0,none⟩)) (a0d hD 10 127 zM rfl rfl);obtain⟨ax,ay,e121,fa,fb⟩:=f121;obtain⟨bx,by_,e126,fc,fd⟩:=f126;have f121:=a0a e121;have f126:=a0a e126;exact yer
         |12,_,ho =>
          exact yam
         |13,_,ho =>
          exact ybz
         |14,_,ho =>
          exact ych
         |15,_,ho =>
          exact ycg
         |16,_,ho =>
          exact yci
         |17,_,ho =>
          cases ho;have f129:=a0d hD 12 129 zM rfl rfl;have f130:=a0a (v:= .int .i64 (1+(N:Nat))) (a0d hD 13 130 zM rfl rfl);have f131:=a0a (v:= .int .i64 (H:Nat)) (a0d hD 14 131 zM rfl rfl);have f132:=a0a (v:= .int .i64 (ci:Nat)) (a0d hD 15 132 zM rfl rfl);have f133:=a0a (v:= .int .i64 (j:Nat)) (a0d hD 16 133 zM rfl rfl);obtain⟨x0,x1,x2,x3,x4,x5,e129,q0,q1,q2,q3,q4,q5⟩:=f129;have f129:=a0a e129;exact ydb
         |18,_,ho =>
          exact yam
         |19,_,ho =>
          exact ybz
         |20,_,ho =>
          exact ych
         |21,_,ho =>
          exact ycg
         |22,_,ho =>
          exact yci
         |23,_,ho =>
          cases ho;have f139:=a0a (v:= .int .i64 (j:Nat)) (a0d hD 22 139 zM rfl rfl);go_simp;exact hK (.int .i64 ((j:Nat)-1)) g W rfl (Ev.refl hM.1.te.tw) hM
         |24,_,ho =>
          cases ho;have f135:=a0d hD 18 135 zM rfl rfl;have f136:=a0a (v:= .int .i64 (1+(N:Nat))) (a0d hD 19 136 zM rfl rfl);have f137:=a0a (v:= .int .i64 (H:Nat)) (a0d hD 20 137 zM rfl rfl);have f138:=a0a (v:= .int .i64 (ci:Nat)) (a0d hD 21 138 zM rfl rfl);have f140:=a0a (v:= .int .i64 ((j:Nat)-1)) (a0d hD 23 140 zM rfl rfl);obtain⟨x0,x1,x2,x3,x4,x5,e135,q0,q1,q2,q3,q4,q5⟩:=f135;have f135:=a0a e135;exact ydb
         |25,_,ho =>
          exact ybr
         |i+26,hi,_=>exact absurd hi oM
        ·intro bb S2 W hM hA hall
         have hP0:=(show bb.eval (.tmp 117)=ev from hall 0 oM _ _ rfl rfl);obtain⟨q,hP11,hq⟩:=(show ∃n,SL S2 W 26 (bb.eval (.tmp 128)) n/\n<=6 from hall 11 oM _ _ rfl rfl);obtain⟨l,hP17,fl⟩:=(show ∃x,bb.eval (.tmp 134)= .int .i64 x/\fits x from hall 17 oM _ _ rfl rfl);obtain⟨r,hP24,fr⟩:=(show ∃x,bb.eval (.tmp 141)= .int .i64 x/\fits x from hall 24 oM _ _ rfl rfl);have hP25:=(show bb.eval (.tmp 142)= .pointer (some ⟨E,0,none⟩)from hall 25 oM _ _ rfl rfl);obtain⟨pv,hpv⟩:=zE (bb.eval (.tmp 128));rw[hpv]at hP11;have hfr:=hA.frame (rT 117 (rF 26 (rT 65 ([])))) _ rfl zM;clear hall hA;obtain⟨f,hf⟩:∃f:Nat->Value,(λk=>bb.tmps.getD k undef)=f:=⟨_,rfl⟩;have g0:f 117=ev:=by rw[<-hf,<-hP0];rfl
         have g1:f 128=pv:=by rw[<-hf,<-hpv];rfl
         have g2:f 134= .int .i64 l:=by rw[<-hf,<-hP17];rfl
         have g3:f 141= .int .i64 r:=by rw[<-hf,<-hP24];rfl
         have g4:f 142= .pointer (some ⟨E,0,none⟩):=by rw[<-hf,<-hP25];rfl
         exact ybp
       ·obtain rfl:ci=N+1:=oM
        have hge:¬(((N+1:Nat):Int)<1+(N:Int)):=oM;exact ygk
     ·obtain rfl:j=H+1:=oM
      have hge:¬((H+1:Nat):Int)<=(H:Int):=oM;go_wp2_with fail;go_loopw [14,17] (λv kk wr=>∃(j n:Nat) (S:BS),j<=H/\kk= .int .i64 (j:Nat)/\n<=9+4*j/\SL S wr 206 v n/\M8 w D BO fv fs E tv ts S wr) (λ_ kk _=>H-(intOf kk).toNat)
      case atStart=>exact⟨0,n,S1,oM,rfl,oM,hsl,hm⟩
      case round =>
       clear hm hsl hn hge hlj hj;obtain⟨j,n,S1,hj,rfl,hn,hsl,hm⟩:=hrel;by_cases hlj:j<H
       ·have hljI:(j:Int)<(H:Int):=oM
        go_wp2_with fail;go_loopw [14,18] (λv kk wr=>∃(i n:Nat) (S:BS),i<=N+2/\kk= .int .i64 (i:Nat)/\n<=9+4*j+i/\SL S wr 206 v n/\M8 w D BO fv fs E tv ts S wr) (λ_ kk _=>N+2-(intOf kk).toNat)
        case atStart=>exact⟨0,n,S1,oM,rfl,oM,hsl,hm⟩
        case round =>
         clear hm hsl hn;obtain⟨ci,n,S1,hi,rfl,hn,hsl,hm⟩:=hrel;by_cases hli:ci<=N+1
         ·have hliI:(ci:Int)<=1+(N:Int):=oM
          go_upto_region 40 with fail;have hwc:IntKind.i64.wrap ((ci:Int)+1)=ci+1:=a0k oM oM;have hwj:IntKind.i64.wrap ((j:Int)+1)=j+1:=a0k oM oM;have hwd:IntKind.i64.wrap ((ci:Int)-1)=ci-1:=a0k oM oM;have hwe:IntKind.i64.wrap ((j:Int)-1)=j-1:=a0k oM oM;obtain⟨ev,hev⟩:∃v,v=u14:=⟨_,rfl⟩;subst hev;refine Go.wp_region_reln 26 zM zM (λ_ S' W=>M8 w D BO fv fs E tv ts S' W/\Ev (b0f E) S1 wr S' W) (λS W S' W'=>Ev (b0f E) S W S' W') (FMb ev sv ci j N H E) (λ_ _ _ _ _ _ h g=>h.kept g) S1 ⟨hm.evo (Ev.drew hm.te.tw),Ev.drew hm.te.tw⟩ ?_ ?_
          ·clear hsl hm hn hts
           intro k o hk ho c bb g W hc hM hA hD K hK;match k,hk,ho with
           |0,_,ho =>
            exact ygc
           |1,_,ho =>
            exact ycv
           |2,_,ho =>
            exact yca
           |3,_,ho =>
            exact ycc
           |4,_,ho =>
            cases ho;have f155:=a0a (v:=sv) (a0d hD 1 155 zM rfl rfl);have f156:=a0a (v:= .int .i64 (ci:Nat)) (a0d hD 2 156 zM rfl rfl);have f157:=a0a (v:= .int .i64 (j:Nat)) (a0d hD 3 157 zM rfl rfl);exact yim
           |5,_,ho =>
            exact ycv
           |6,_,ho =>
            exact yca
           |7,_,ho =>
            exact ycc
           |8,_,ho =>
            cases ho;have f161:=a0a (v:= .int .i64 (j:Nat)) (a0d hD 7 161 zM rfl rfl);go_simp;exact hK (.int .i64 ((j:Nat)+1)) g W rfl (Ev.refl hM.1.te.tw) hM
           |9,_,ho =>
            cases ho;have f159:=a0a (v:=sv) (a0d hD 5 159 zM rfl rfl);have f160:=a0a (v:= .int .i64 (ci:Nat)) (a0d hD 6 160 zM rfl rfl);have f162:=a0a (v:= .int .i64 ((j:Nat)+1)) (a0d hD 8 162 zM rfl rfl);go_simp;refine(hM.1.node hss (ci) (j+1) oM oM oM oM).mono ?_;exact ybe
           |10,_,ho =>
            exact ybr
           |11,_,ho =>
            cases ho;have f158:=a0d hD 4 158 zM rfl rfl;have f163:=a0d hD 9 163 zM rfl rfl;have f164:=a0a (v:= .pointer (some ⟨E,0,none⟩)) (a0d hD 10 164 zM rfl rfl);obtain⟨ax,ay,e158,fa,fb⟩:=f158;obtain⟨bx,by_,e163,fc,fd⟩:=f163;have f158:=a0a e158;have f163:=a0a e163;exact yer
           |12,_,ho =>
            exact yam
           |13,_,ho =>
            exact ybz
           |14,_,ho =>
            exact ych
           |15,_,ho =>
            exact yca
           |16,_,ho =>
            cases ho;have f169:=a0a (v:= .int .i64 (ci:Nat)) (a0d hD 15 169 zM rfl rfl);go_simp;exact hK (.int .i64 ((ci:Nat)-1)) g W rfl (Ev.refl hM.1.te.tw) hM
           |17,_,ho =>
            exact ycc
           |18,_,ho =>
            cases ho;have f166:=a0d hD 12 166 zM rfl rfl;have f167:=a0a (v:= .int .i64 (1+(N:Nat))) (a0d hD 13 167 zM rfl rfl);have f168:=a0a (v:= .int .i64 (H:Nat)) (a0d hD 14 168 zM rfl rfl);have f170:=a0a (v:= .int .i64 ((ci:Nat)-1)) (a0d hD 16 170 zM rfl rfl);have f171:=a0a (v:= .int .i64 (j:Nat)) (a0d hD 17 171 zM rfl rfl);obtain⟨x0,x1,x2,x3,x4,x5,e166,q0,q1,q2,q3,q4,q5⟩:=f166;have f166:=a0a e166;exact ydb
           |19,_,ho =>
            exact yam
           |20,_,ho =>
            exact ybz
           |21,_,ho =>
            exact ych
           |22,_,ho =>
            exact yca
           |23,_,ho =>
            exact ycc
           |24,_,ho =>
            cases ho;have f173:=a0d hD 19 173 zM rfl rfl;have f174:=a0a (v:= .int .i64 (1+(N:Nat))) (a0d hD 20 174 zM rfl rfl);have f175:=a0a (v:= .int .i64 (H:Nat)) (a0d hD 21 175 zM rfl rfl);have f176:=a0a (v:= .int .i64 (ci:Nat)) (a0d hD 22 176 zM rfl rfl);have f177:=a0a (v:= .int .i64 (j:Nat)) (a0d hD 23 177 zM rfl rfl);obtain⟨x0,x1,x2,x3,x4,x5,e173,q0,q1,q2,q3,q4,q5⟩:=f173;have f173:=a0a e173;exact ydb
           |25,_,ho =>
            exact ybr
           |i+26,hi,_=>exact absurd hi oM
          ·intro bb S2 W hM hA hall
           have hP0:=(show bb.eval (.tmp 154)=ev from hall 0 oM _ _ rfl rfl);obtain⟨q,hP11,hq⟩:=(show ∃n,SL S2 W 26 (bb.eval (.tmp 165)) n/\n<=6 from hall 11 oM _ _ rfl rfl);obtain⟨l,hP17,fl⟩:=(show ∃x,bb.eval (.tmp 172)= .int .i64 x/\fits x from hall 18 oM _ _ rfl rfl);obtain⟨r,hP24,fr⟩:=(show ∃x,bb.eval (.tmp 178)= .int .i64 x/\fits x from hall 24 oM _ _ rfl rfl);have hP25:=(show bb.eval (.tmp 179)= .pointer (some ⟨E,0,none⟩)from hall 25 oM _ _ rfl rfl);obtain⟨pv,hpv⟩:=zE (bb.eval (.tmp 165));rw[hpv]at hP11;have hfr:=hA.frame (rT 154 (rF 26 (rT 28 ([])))) _ rfl zM;clear hall hA;obtain⟨f,hf⟩:∃f:Nat->Value,(λk=>bb.tmps.getD k undef)=f:=⟨_,rfl⟩;have g0:f 154=ev:=by rw[<-hf,<-hP0];rfl
           have g1:f 165=pv:=by rw[<-hf,<-hpv];rfl
           have g2:f 172= .int .i64 l:=by rw[<-hf,<-hP17];rfl
           have g3:f 178= .int .i64 r:=by rw[<-hf,<-hP24];rfl
           have g4:f 179= .pointer (some ⟨E,0,none⟩):=by rw[<-hf,<-hP25];rfl
           exact ybp
         ·obtain rfl:ci=N+2:=oM
          have hge:¬(((N+2:Nat):Int)<=1+(N:Int)):=oM;exact ygk
       ·obtain rfl:j=H:=oM
        have hge:¬(j:Int)<(j:Int):=oM;go_upto_if 183 with(first
         |(go_at_call 73;refine(hm.next 2 oM oM).mono ?_;rintro e W5⟨d1,rfl,d10,d11,hm5,hg5,he5⟩))
        have hse5:=he5.sl hsl;clear hm hsl hg5 he5;by_cases hd:d1=1
        ·subst hd
         go_upto_region 43 with(first
          |(go_at_call 73;refine(hm5.next (1+(N:Int)) oM oM).mono ?_;rintro e W6⟨x,rfl,x0,x1,hm6,hg6,he6⟩))
         have hse6:=he6.sl hse5;clear hm5 hse5 hg6 he6;go_upto_region 44 with(first
          |(go_at_call 73;refine(hm6.next (j:Int) oM oM).mono ?_;rintro e W7⟨y,rfl,y0,y1,hm7,hg7,he7⟩))
         have hse7:=he7.sl hse6;clear hm6 hse6 hg7 he7;obtain⟨x,rfl⟩:∃n:Nat,x=n:=⟨x.toNat,oM⟩;obtain⟨y,rfl⟩:∃n:Nat,y=n:=⟨y.toNat,oM⟩;obtain⟨z,cz,fz⟩:=hm7.m7.ob.at_ (q:=x*2+y) oM;go_upto_region 45 with(first
          |(go_at_call 130;refine(hm7.island u14 n hse7 oM _ _ _ zF zF fz).mono ?_;rintro e W8⟨S8,v8,rfl,⟨nF,hsF,hm8'⟩,hmF,he8⟩))
         clear hm7 hse7 he8 cz;exact ydx
        ·have hdb:(d1==1)=false:=by simpa using hd
         go_upto_region 45 with fail;have hmF:=hm5;have hsF:=hse5;obtain⟨nF,hnF⟩:=zE n;rw[hnF]at hsF;clear hm5 hse5;exact ydx
end
end Go.Proofs.YtfocdbjceedagaaGreatDoor
