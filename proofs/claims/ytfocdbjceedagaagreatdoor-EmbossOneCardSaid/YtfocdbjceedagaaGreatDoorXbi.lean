/-
  Parts.
-/
import Derived.Test.YtfocdbjceedagaaGreatDoorXbh
set_option linter.unusedVariables false
set_option linter.unusedSimpArgs false
set_option maxHeartbeats 8000000
set_option maxRecDepth 100000
namespace Go.Proofs.YtfocdbjceedagaaGreatDoor
open Tryz
section
open Go.RowKit Go.Shelf
attribute [local go_sem] Oper.semAt_some
attribute [local go_sem ↓] Go.wp_at_zero Go.wp_at_succ
def FMa (ev sv:Value)(ci j N H E:Nat)(i:Nat)(v:Value)(g:BS)(w:World):Prop :=
 match i with
 |0=>v=ev
 |1=>v=sv
 |2=>v= .int .i64 (ci:Nat)
 |3=>v= .int .i64 (j:Nat)
 |4=>Pt2 v
 |5=>v=sv
 |6=>v= .int .i64 (ci:Nat)
 |7=>v= .int .i64 ((ci:Nat)+1)
 |8=>v= .int .i64 (j:Nat)
 |9=>Pt2 v
 |10=>v= .pointer (some ⟨E,0,none⟩)
 |11=>∃n,SL g w 26 v n∧n≤6
 |12=>Six v
 |13=>v= .int .i64 (1+(N:Nat))
 |14=>v= .int .i64 (H:Nat)
 |15=>v= .int .i64 (ci:Nat)
 |16=>v= .int .i64 (j:Nat)
 |17=>d3i v
 |18=>Six v
 |19=>v= .int .i64 (1+(N:Nat))
 |20=>v= .int .i64 (H:Nat)
 |21=>v= .int .i64 (ci:Nat)
 |22=>v= .int .i64 (j:Nat)
 |23=>v= .int .i64 ((j:Nat)-1)
 |24=>d3i v
 |25=>v= .pointer (some ⟨E,0,none⟩)
 |_=>False
theorem FMa.kept {ev sv:Value}{ci j N H E:Nat}{i:Nat}{v:Value}{g g':BS}{w w':World}(h:FMa ev sv ci j N H E i v g w)(hg:Ev (a9j E) g w g' w'):FMa ev sv ci j N H E i v g' w':=by
 unfold FMa at *;split at h
 all_goals first|exact h|(exact h)|(obtain⟨n,h1,h2⟩:=h;exact⟨n,hg.sl h1,h2⟩)
def FMb (ev sv:Value)(ci j N H E:Nat)(i:Nat)(v:Value)(g:BS)(w:World):Prop :=
 match i with
 |0=>v=ev
 |1=>v=sv
 |2=>v= .int .i64 (ci:Nat)
 |3=>v= .int .i64 (j:Nat)
 |4=>Pt2 v
 |5=>v=sv
 |6=>v= .int .i64 (ci:Nat)
 |7=>v= .int .i64 (j:Nat)
 |8=>v= .int .i64 ((j:Nat)+1)
 |9=>Pt2 v
 |10=>v= .pointer (some ⟨E,0,none⟩)
 |11=>∃n,SL g w 26 v n∧n≤6
 |12=>Six v
 |13=>v= .int .i64 (1+(N:Nat))
 |14=>v= .int .i64 (H:Nat)
 |15=>v= .int .i64 (ci:Nat)
 |16=>v= .int .i64 ((ci:Nat)-1)
 |17=>v= .int .i64 (j:Nat)
 |18=>d3i v
 |19=>Six v
 |20=>v= .int .i64 (1+(N:Nat))
 |21=>v= .int .i64 (H:Nat)
 |22=>v= .int .i64 (ci:Nat)
 |23=>v= .int .i64 (j:Nat)
 |24=>d3i v
 |25=>v= .pointer (some ⟨E,0,none⟩)
 |_=>False
theorem FMb.kept {ev sv:Value}{ci j N H E:Nat}{i:Nat}{v:Value}{g g':BS}{w w':World}(h:FMb ev sv ci j N H E i v g w)(hg:Ev (a9j E) g w g' w'):FMb ev sv ci j N H E i v g' w':=by
 unfold FMb at *;split at h
 all_goals first|exact h|(exact h)|(obtain⟨n,h1,h2⟩:=h;exact⟨n,hg.sl h1,h2⟩)
theorem c6d (lv:Value)(rows:List (Value×List Int))(w:World)(hM:Mat w.heap.size w lv rows) :
 Calls prog 71 #[lv] w fun e w'=>∃S' ev fv,e= .returned (.tuple #[ev,fv])∧(∃m n,SL S' w' 206 ev m∧m≤30∧SL S' w' 140 fv n∧n≤200)∧Ev noB noB w S' w':=by
 obtain⟨la,lcap,rfl,hlc,hrow⟩:=hM;go_enter func71,ntmps71;go_upto_if 23 with fail;go_cut [4] (fun v wx=>(∃a xs cap,v= .slice a (List.length xs) cap∧Intz w.heap.size w v xs)∧Same1 w wx)
 case first =>
  by_cases h:0<rows.length
  ·obtain⟨b,off,rfl,hb,hc,hi⟩:=hrow 0 h
   have hI:(0:Int)<(rows.length:Int):=by omega
   obtain⟨a',c',he,-⟩:=hi.ints;rw[he] at hc hi;rw[Nat.add_zero] at hc;go_wp2_with fail;go_meet;exact⟨⟨_,_,_,rfl,hi⟩,⟨rfl⟩⟩
  ·go_wp2_with fail
   go_meet;exact⟨⟨none,[],0,rfl,Intz.nil _ _⟩,⟨rfl⟩⟩
 case rest =>
 obtain⟨⟨afs,fs,cfs,rfl,hfs⟩,⟨hw1⟩⟩:=hcut;subst hw1;go_upto_if 29 with fail;go_cut [5] (fun v wx=>(∃a xs cap,v= .slice a (List.length xs) cap∧Intz w.heap.size w v xs)∧Same1 w wx)
 case first =>
  by_cases h:1<rows.length
  ·obtain⟨b,off,rfl,hb,hc,hi⟩:=hrow 1 h
   have hI:(1:Int)<(rows.length:Int):=by omega
   obtain⟨a',c',he,-⟩:=hi.ints;rw[he] at hc hi;go_wp2_with fail;go_meet;exact⟨⟨_,_,_,rfl,hi⟩,⟨rfl⟩⟩
  ·go_wp2_with fail
   go_meet;exact⟨⟨none,[],0,rfl,Intz.nil _ _⟩,⟨rfl⟩⟩
 case rest =>
 obtain⟨⟨ass,ss,css,rfl,hss⟩,⟨hw1⟩⟩:=hcut;subst hw1;go_upto_if 35 with fail;go_cut [6] (fun v wx=>(∃a xs cap,v= .slice a (List.length xs) cap∧Intz w.heap.size w v xs)∧Same1 w wx)
 case first =>
  by_cases h:2<rows.length
  ·obtain⟨b,off,rfl,hb,hc,hi⟩:=hrow 2 h
   have hI:(2:Int)<(rows.length:Int):=by omega
   obtain⟨a',c',he,-⟩:=hi.ints;rw[he] at hc hi;go_wp2_with fail;go_meet;exact⟨⟨_,_,_,rfl,hi⟩,⟨rfl⟩⟩
  ·go_wp2_with fail
   go_meet;exact⟨⟨none,[],0,rfl,Intz.nil _ _⟩,⟨rfl⟩⟩
 case rest =>
 obtain⟨⟨ats,ts,cts,rfl,hts⟩,⟨hw1⟩⟩:=hcut;subst hw1;go_upto_region 9 with fail;clear hrow;have hm0:TD noB w.heap.size w.heap.size (.slice afs fs.length cfs) fs (w.alloc (.cells #[.slice afs fs.length cfs,.int .i64 0] 137)):=by
  have hB:Below w.heap.size w (w.alloc (.cells #[.slice afs fs.length cfs,.int .i64 0] 137)):=zC;exact⟨TW.none _,⟨0,Nat.zero_le _,Blk.new _ _ _⟩,hfs.ints.below hB,yR _,hfs.len,fun _ h=>h.elim,fun h=>h⟩
 have he0:Ev noB noB w noB (w.alloc (.cells #[.slice afs fs.length cfs,.int .i64 0] 137)):=Ev.of_below (TW.none _) zC;obtain⟨W0,hW0⟩:∃W,w.alloc (.cells #[.slice afs fs.length cfs,.int .i64 0] 137)=W:=⟨_,rfl⟩;rw[hW0] at hm0 he0;rw[hW0];clear hW0;obtain⟨D,hD⟩:∃b,w.heap.size=b:=⟨_,rfl⟩;have hm1:TD noB w.heap.size D (.slice afs fs.length cfs) fs W0:=by
  have h:=hm0;exact hD▸h
 rw[hD];have hDl:w.heap.size≤D:=by omega
 clear hm0 hD;go_upto_region 10 with (first
  |(go_at_call 73;refine (hm1.call 3 (by omega) (by omega)).mono ?_;rintro e W1⟨q,rfl,q0,q1,hm2,hg1,he1⟩)
  |fail)
 have he2:=he0.wide he1 (fun b hb=>by cases hb;exact hDl);clear hg1 he1 he0 hm1;go_upto_if 49 with (first
  |(go_at_call 73;refine (hm2.call 2 (by omega) (by omega)).mono ?_;rintro e W2⟨r,rfl,r0,r1,hm3,hg2,he3⟩)
  |fail)
 have he4:=he2.wide he3 (fun b hb=>by cases hb;exact hDl);clear hg2 he2 he3 hm2;obtain⟨N,rfl⟩:∃N:Nat,q=N:=⟨q.toNat,by omega⟩;obtain⟨R,rfl⟩:∃R:Nat,r=R:=⟨r.toNat,by omega⟩;go_cut [9] (fun v wx=>(∃H:Nat,v= .int .i64 (H:Nat)∧1≤H∧H≤2)∧Same1 W2 wx)
 case first =>
  by_cases h:N=2
  ·subst h
   go_wp2_with fail;go_meet;exact⟨⟨1,rfl,by omega,by omega⟩,⟨rfl⟩⟩
  ·have hb:(1+(N:Int)==3)=false:=by simp;omega
   go_wp2_with fail;go_meet;exact⟨⟨1+R,by congr 1,by omega,by omega⟩,⟨rfl⟩⟩
 case rest =>
 obtain⟨⟨H,rfl,hH1,hH2⟩,⟨hw1⟩⟩:=hcut;subst hw1;go_wp2_with fail;have hmo:M7 w D W2.heap.size (.slice afs fs.length cfs) fs noB (W2.alloc (.cells #[.int .i64 0,.int .i64 0,.int .i64 0,.int .i64 0,.int .i64 0,.int .i64 0] 194)):=by
  have hB:Below W2.heap.size W2 (W2.alloc (.cells #[.int .i64 0,.int .i64 0,.int .i64 0,.int .i64 0,.int .i64 0,.int .i64 0] 194)):=zC;have hE:=Ev.of_below (X:=noB) hm3.tw hB;have hlD:=hm3.lt;exact⟨hm3.ev hE (fun _ h=>h.elim),⟨_,Blk.new _ _ _,rfl,fun u hu=>by simp at hu;exact⟨0,hu,⟨by decide,by decide⟩⟩⟩,fun h=>h,he4.size,by omega,he4.trans hE⟩
 obtain⟨BO,hBO⟩:∃b,W2.heap.size=b:=⟨_,rfl⟩;obtain⟨W3,hW3⟩:∃W,W2.alloc (.cells #[.int .i64 0,.int .i64 0,.int .i64 0,.int .i64 0,.int .i64 0,.int .i64 0] 194)=W:=⟨_,rfl⟩;rw[hBO,hW3] at hmo;rw[hBO,hW3];clear hBO hW3 hm3 he4;go_loopw [11] (fun v wr=>∃i:Nat,i≤N+1∧v= .int .i64 (i:Nat)∧M7 w D BO (.slice afs fs.length cfs) fs noB wr) (fun v _=>N+1-(intOf v).toNat)
 case atStart=>exact⟨0,Nat.zero_le _,rfl,hmo⟩
 case round =>
  clear hmo;obtain⟨i,hi,rfl,hmo⟩:=hrel;by_cases hlt:i<N+1
  ·have hltI:(i:Int)<1+(N:Int):=by omega
   as_aux_lemma =>
    go_wp2_with fail;go_loopw [12] (fun v wr=>∃j:Nat,j≤H∧v= .int .i64 (j:Nat)∧M7 w D BO (.slice afs fs.length cfs) fs noB wr) (fun v _=>H-(intOf v).toNat)
    case atStart=>exact⟨0,Nat.zero_le _,rfl,hmo⟩
    case round =>
     clear hmo;obtain⟨j,hj,rfl,hm⟩:=hrel;by_cases hlj:j<H
     ·have hljI:(j:Int)<(H:Int):=by omega
      obtain⟨y,cy,fy⟩:=hm.ob.at_ (q:=i*2+j) (by omega);have fz:=hm.ob.frozen (i*2+j);go_upto_region 21 with fail;refine a0g (fun W5 hW5=> ?_);have hm5:M7 w D BO (.slice afs fs.length cfs) fs noB W5:=by
       rw[hW5];exact hm.set _ (by first|with_reducible (first|exact a0j _|exact a0m _|assumption|exact a0n (by omega))|exact⟨by omega,by omega⟩)
      clear hW5 hm cy fz;by_cases hi0:i=0
      ·have hip:¬(0:Int)<(i:Int):=by omega
       clear hi0;go_upto_region 23 with fail;have hm:=hm5;clear hm5;by_cases hj0:j=0
       ·have hpj:¬(0:Int)<(j:Int):=by omega
        clear hj0;go_wp2_with fail;go_roundw
        case rel=>exact⟨j+1,by omega,by go_num,hm⟩
        case measure=>simp[intOf];omega
       ·obtain rfl:j=1:=by omega
        have hpj:(0:Int)<((1:Nat):Int):=by omega
        go_upto_if 93 with (first
         |(go_at_call 73;refine (hm.next 5 (by omega) (by omega)).mono ?_;rintro e W9⟨v2,rfl,v20,v21,hm6,hg9,he9⟩)
         |fail)
        clear hm hg9 he9;by_cases hv2:v2=0
        ·subst hv2
         obtain⟨y0,cy0,fy0⟩:=hm6.ob.at_ (q:=i*2) (by omega);obtain⟨y1,cy1,fy1⟩:=hm6.ob.at_ (q:=i*2+1) (by omega);have fz:=hm6.ob.frozen (i*2+1);go_upto_region 24 with fail;first|with_reducible refine a0c 9 (by kernel_rfl) (by kernel_rfl) ?_|with_reducible refine a0d 9 (by kernel_rfl) (by kernel_rfl) ?_
         simp only[List.take_succ_cons,List.take_zero,List.drop_succ_cons,List.drop_zero];repeat (first|go_big_quiet_step (fail)|quiet_step (fail))
         refine wpQuiet_nil ?_;intro _ hw_;obtain⟨p,hw_⟩:=hw_;subst hw_;have hm7:=(hm6.set (i*2+1) fy0).up (below_growBy _ p);go_wp2_with fail;go_roundw
         case rel=>exact⟨1+1,by omega,by go_num,by first|exact hm7|simpa using hm7⟩
         case measure=>simp[intOf];omega
        ·have hvb:(v2==0)=false:=by simpa using hv2
         go_wp2_with fail;go_roundw
         case rel=>exact⟨1+1,by omega,by go_num,hm6⟩
         case measure=>simp[intOf];omega
      ·have hip:(0:Int)<(i:Int):=by omega
       go_upto_if 76 with (first
        |(go_at_call 73;refine (hm5.next 5 (by omega) (by omega)).mono ?_;rintro e W6⟨v1,rfl,v10,v11,hm6,hg6,he6⟩)
        |fail)
       clear hm5 hg6 he6;by_cases hv1:v1=0
       ·subst hv1
        obtain⟨i1,hi1⟩:∃i1,i=i1+1:=⟨i-1,by omega⟩;have e1:(i:Int)-1=(i1:Int):=by omega
        have hi1b:i1<3:=by omega
        replace hi1:=Lib.hid hi1;obtain⟨y0,cy0,fy0⟩:=hm6.ob.at_ (q:=i1*2+j) (by omega);obtain⟨y1,cy1,fy1⟩:=hm6.ob.at_ (q:=i*2+j) (by omega);have fz:=hm6.ob.frozen (i*2+j);go_upto_region 22 with fail;first|with_reducible refine a0c 9 (by kernel_rfl) (by kernel_rfl) ?_|with_reducible refine a0d 9 (by kernel_rfl) (by kernel_rfl) ?_
        simp only[List.take_succ_cons,List.take_zero,List.drop_succ_cons,List.drop_zero];repeat (first|go_big_quiet_step (fail)|quiet_step (fail))
        refine wpQuiet_nil ?_;intro _ hw_;obtain⟨p,hw_⟩:=hw_;subst hw_;have hm:=(hm6.set (i*2+j) fy0).up (below_growBy _ p);go_upto_region 23 with fail;clear hm6 cy1 fy1 cy0 fz e1 hi0;by_cases hj0:j=0
        ·have hpj:¬(0:Int)<(j:Int):=by omega
         clear hj0;go_wp2_with fail;go_roundw
         case rel=>exact⟨j+1,by omega,by go_num,hm⟩
         case measure=>simp[intOf];omega
        ·obtain rfl:j=1:=by omega
         have hpj:(0:Int)<((1:Nat):Int):=by omega
         go_upto_if 93 with (first
          |(go_at_call 73;refine (hm.next 5 (by omega) (by omega)).mono ?_;rintro e W9⟨v2,rfl,v20,v21,hm6,hg9,he9⟩)
          |fail)
         clear hm hg9 he9;by_cases hv2:v2=0
         ·subst hv2
          obtain⟨y0,cy0,fy0⟩:=hm6.ob.at_ (q:=i*2) (by omega);obtain⟨y1,cy1,fy1⟩:=hm6.ob.at_ (q:=i*2+1) (by omega);have fz:=hm6.ob.frozen (i*2+1);go_upto_region 24 with fail;first|with_reducible refine a0c 9 (by kernel_rfl) (by kernel_rfl) ?_|with_reducible refine a0d 9 (by kernel_rfl) (by kernel_rfl) ?_
          simp only[List.take_succ_cons,List.take_zero,List.drop_succ_cons,List.drop_zero];repeat (first|go_big_quiet_step (fail)|quiet_step (fail))
          refine wpQuiet_nil ?_;intro _ hw_;obtain⟨p,hw_⟩:=hw_;subst hw_;have hm7:=(hm6.set (i*2+1) fy0).up (below_growBy _ p);go_wp2_with fail;go_roundw
          case rel=>exact⟨1+1,by omega,by go_num,by first|exact hm7|simpa using hm7⟩
          case measure=>simp[intOf];omega
         ·have hvb:(v2==0)=false:=by simpa using hv2
          go_wp2_with fail;go_roundw
          case rel=>exact⟨1+1,by omega,by go_num,hm6⟩
          case measure=>simp[intOf];omega
       ·have hvb:(v1==0)=false:=by simpa using hv1
        go_upto_region 23 with fail;have hm:=hm6;clear hm6;by_cases hj0:j=0
        ·have hpj:¬(0:Int)<(j:Int):=by omega
         clear hj0;go_wp2_with fail;go_roundw
         case rel=>exact⟨j+1,by omega,by go_num,hm⟩
         case measure=>simp[intOf];omega
        ·obtain rfl:j=1:=by omega
         have hpj:(0:Int)<((1:Nat):Int):=by omega
         go_upto_if 93 with (first
          |(go_at_call 73;refine (hm.next 5 (by omega) (by omega)).mono ?_;rintro e W9⟨v2,rfl,v20,v21,hm6,hg9,he9⟩)
          |fail)
         clear hm hg9 he9;by_cases hv2:v2=0
         ·subst hv2
          obtain⟨y0,cy0,fy0⟩:=hm6.ob.at_ (q:=i*2) (by omega);obtain⟨y1,cy1,fy1⟩:=hm6.ob.at_ (q:=i*2+1) (by omega);have fz:=hm6.ob.frozen (i*2+1);go_upto_region 24 with fail;first|with_reducible refine a0c 9 (by kernel_rfl) (by kernel_rfl) ?_|with_reducible refine a0d 9 (by kernel_rfl) (by kernel_rfl) ?_
          simp only[List.take_succ_cons,List.take_zero,List.drop_succ_cons,List.drop_zero];repeat (first|go_big_quiet_step (fail)|quiet_step (fail))
          refine wpQuiet_nil ?_;intro _ hw_;obtain⟨p,hw_⟩:=hw_;subst hw_;have hm7:=(hm6.set (i*2+1) fy0).up (below_growBy _ p);go_wp2_with fail;go_roundw
          case rel=>exact⟨1+1,by omega,by go_num,by first|exact hm7|simpa using hm7⟩
          case measure=>simp[intOf];omega
         ·have hvb:(v2==0)=false:=by simpa using hv2
          go_wp2_with fail;go_roundw
          case rel=>exact⟨1+1,by omega,by go_num,hm6⟩
          case measure=>simp[intOf];omega
     ·obtain rfl:j=H:=by omega
      have hge:¬(j:Int)<(j:Int):=by omega
      go_wp2_with fail;go_roundw
      case rel=>exact⟨i+1,by omega,by go_num,hm⟩
      case measure=>simp[intOf];omega
  ·have hge:¬((i:Int)<1+(N:Int)):=by omega
   go_upto_region 26 with fail;have hm8:=hmo.third hts;obtain⟨E,hE⟩:∃b,wr.heap.size=b:=⟨_,rfl⟩;obtain⟨W4,hW4⟩:∃W,wr.alloc (.cells #[.slice ats ts.length cts,.int .i64 0] 137)=W:=⟨_,rfl⟩;rw[hE,hW4] at hm8;rw[hE,hW4];clear hE hW4 hmo hlt hge hi;as_aux_lemma =>
    obtain⟨fv,hfv⟩:∃v,Value.slice afs fs.length cfs=v:=⟨_,rfl⟩;obtain⟨sv,hsv⟩:∃v,Value.slice ass ss.length css=v:=⟨_,rfl⟩;obtain⟨tv,htv⟩:∃v,Value.slice ats ts.length cts=v:=⟨_,rfl⟩;rw[hfv] at hfs;rw[hsv] at hss;rw[htv] at hts;rw[hfv,htv] at hm8;rw[hfv,hsv,htv];clear hfv hsv htv;go_wp2_with fail;go_loopw [14,15] (fun v kk wr=>∃(j n:Nat) (S:BS),j≤H+1∧kk= .int .i64 (j:Nat)∧n≤3*j∧SL S wr 206 v n∧M8 w D BO fv fs E tv ts S wr) (fun _ kk _=>H+1-(intOf kk).toNat)
    case atStart=>exact⟨0,0,noB,Nat.zero_le _,rfl,by omega,SL.nil _ _ _,hm8⟩
    case round =>
     clear hm8;obtain⟨j,n,S1,hj,rfl,hn,hsl,hm⟩:=hrel;by_cases hlj:j≤H
     ·have hljI:(j:Int)≤(H:Int):=by omega
      go_wp2_with fail;go_loopw [14,16] (fun v kk wr=>∃(i n:Nat) (S:BS),i≤N+1∧kk= .int .i64 (i:Nat)∧n≤3*j+i∧SL S wr 206 v n∧M8 w D BO fv fs E tv ts S wr) (fun _ kk _=>N+1-(intOf kk).toNat)
      case atStart=>exact⟨0,n,S1,by omega,rfl,by omega,hsl,hm⟩
      case round =>
       clear hm hsl hn;obtain⟨ci,n,S1,hi,rfl,hn,hsl,hm⟩:=hrel;by_cases hli:ci<N+1
       ·have hliI:(ci:Int)<1+(N:Int):=by omega
        go_upto_region 33 with fail;have hwc:IntKind.i64.wrap ((ci:Int)+1)=ci+1:=a0u (by omega) (by omega);have hwj:IntKind.i64.wrap ((j:Int)+1)=j+1:=a0u (by omega) (by omega);have hwd:IntKind.i64.wrap ((ci:Int)-1)=ci-1:=a0u (by omega) (by omega);have hwe:IntKind.i64.wrap ((j:Int)-1)=j-1:=a0u (by omega) (by omega);obtain⟨ev,hev⟩:∃v,v=u14:=⟨_,rfl⟩;subst hev;refine Go.wp_region_reln 26 (by kernel_rfl) (by kernel_rfl) (fun _ S' W=>M8 w D BO fv fs E tv ts S' W∧Ev (a9j E) S1 wr S' W) (fun S W S' W'=>Ev (a9j E) S W S' W') (FMa ev sv ci j N H E) (fun _ _ _ _ _ _ h g=>h.kept g) S1 ⟨hm.evo (Ev.drew hm.te.tw),Ev.drew hm.te.tw⟩ ?_ ?_
        ·clear hsl hm hn hts
         intro k o hk ho c bb g W hc hM hA hD K hK;match k,hk,ho with
         |0,_,ho =>
          cases ho;have f14:=a0a (v:=ev) (hA.at_ (k:=14) (by kernel_rfl));go_simp;exact hK (ev) g W rfl (Ev.refl hM.1.te.tw) hM
         |1,_,ho =>
          cases ho;have f5:=a0a (v:=sv) (hA.at_ (k:=5) (by kernel_rfl));go_simp;exact hK (sv) g W rfl (Ev.refl hM.1.te.tw) hM
         |2,_,ho =>
          cases ho;have f16:=a0a (v:= .int .i64 (ci:Nat)) (hA.at_ (k:=16) (by kernel_rfl));go_simp;exact hK (.int .i64 (ci:Nat)) g W rfl (Ev.refl hM.1.te.tw) hM
         |3,_,ho =>
          cases ho;have f15:=a0a (v:= .int .i64 (j:Nat)) (hA.at_ (k:=15) (by kernel_rfl));go_simp;exact hK (.int .i64 (j:Nat)) g W rfl (Ev.refl hM.1.te.tw) hM
         |4,_,ho =>
          cases ho;have f118:=a0a (v:=sv) (a0f hD 1 118 (by kernel_rfl) rfl rfl);have f119:=a0a (v:= .int .i64 (ci:Nat)) (a0f hD 2 119 (by kernel_rfl) rfl rfl);have f120:=a0a (v:= .int .i64 (j:Nat)) (a0f hD 3 120 (by kernel_rfl) rfl rfl);go_simp;refine (hM.1.node hss (ci) (j) (by omega) (by omega) (by omega) (by omega)).mono ?_;rintro e W'⟨v,rfl,hp,h1,h2⟩;go_simp;exact hK v g W' hp h2 ⟨h1,hM.2.trans h2⟩
         |5,_,ho =>
          cases ho;have f5:=a0a (v:=sv) (hA.at_ (k:=5) (by kernel_rfl));go_simp;exact hK (sv) g W rfl (Ev.refl hM.1.te.tw) hM
         |6,_,ho =>
          cases ho;have f16:=a0a (v:= .int .i64 (ci:Nat)) (hA.at_ (k:=16) (by kernel_rfl));go_simp;exact hK (.int .i64 (ci:Nat)) g W rfl (Ev.refl hM.1.te.tw) hM
         |7,_,ho =>
          cases ho;have f123:=a0a (v:= .int .i64 (ci:Nat)) (a0f hD 6 123 (by kernel_rfl) rfl rfl);go_simp;exact hK (.int .i64 ((ci:Nat)+1)) g W rfl (Ev.refl hM.1.te.tw) hM
         |8,_,ho =>
          cases ho;have f15:=a0a (v:= .int .i64 (j:Nat)) (hA.at_ (k:=15) (by kernel_rfl));go_simp;exact hK (.int .i64 (j:Nat)) g W rfl (Ev.refl hM.1.te.tw) hM
         |9,_,ho =>
          cases ho;have f122:=a0a (v:=sv) (a0f hD 5 122 (by kernel_rfl) rfl rfl);have f124:=a0a (v:= .int .i64 ((ci:Nat)+1)) (a0f hD 7 124 (by kernel_rfl) rfl rfl);have f125:=a0a (v:= .int .i64 (j:Nat)) (a0f hD 8 125 (by kernel_rfl) rfl rfl);go_simp;refine (hM.1.node hss (ci+1) (j) (by omega) (by omega) (by omega) (by omega)).mono ?_;rintro e W'⟨v,rfl,hp,h1,h2⟩;go_simp;exact hK v g W' hp h2 ⟨h1,hM.2.trans h2⟩
         |10,_,ho =>
          cases ho;have f13:=a0a (v:= .pointer (some ⟨E,0,none⟩)) (hA.at_ (k:=13) (by kernel_rfl));go_simp;exact hK (.pointer (some ⟨E,0,none⟩)) g W rfl (Ev.refl hM.1.te.tw) hM
         |11,_,ho =>
          cases ho;have f121:=a0f hD 4 121 (by kernel_rfl) rfl rfl;have f126:=a0f hD 9 126 (by kernel_rfl) rfl rfl;have f127:=a0a (v:= .pointer (some ⟨E,0,none⟩)) (a0f hD 10 127 (by kernel_rfl) rfl rfl);obtain⟨ax,ay,e121,fa,fb⟩:=f121;obtain⟨bx,by_,e126,fc,fd⟩:=f126;have f121:=a0a e121;have f126:=a0a e126;go_simp;refine (hM.1.wiggle ax ay bx by_ fa fb fc fd).mono ?_;rintro e W'⟨S',v,rfl,hp,h1,h2⟩;go_simp;exact hK v S' W' hp h2 ⟨h1,hM.2.trans h2⟩
         |12,_,ho =>
          cases ho;have f10:=a0a (v:= .pointer (some ⟨BO,0,none⟩)) (hA.at_ (k:=10) (by kernel_rfl));obtain⟨y0,c0,q0⟩:=hM.1.m7.ob.at_ (q:=0) (by omega);obtain⟨y1,c1,q1⟩:=hM.1.m7.ob.at_ (q:=1) (by omega);obtain⟨y2,c2,q2⟩:=hM.1.m7.ob.at_ (q:=2) (by omega);obtain⟨y3,c3,q3⟩:=hM.1.m7.ob.at_ (q:=3) (by omega);obtain⟨y4,c4,q4⟩:=hM.1.m7.ob.at_ (q:=4) (by omega);obtain⟨y5,c5,q5⟩:=hM.1.m7.ob.at_ (q:=5) (by omega);go_simp;exact hK _ g W ⟨_,_,_,_,_,_,rfl,q0,q1,q2,q3,q4,q5⟩ (Ev.refl hM.1.te.tw) hM
         |13,_,ho =>
          cases ho;have f8:=a0a (v:= .int .i64 (1+(N:Nat))) (hA.at_ (k:=8) (by kernel_rfl));go_simp;exact hK (.int .i64 (1+(N:Nat))) g W rfl (Ev.refl hM.1.te.tw) hM
         |14,_,ho =>
          cases ho;have f9:=a0a (v:= .int .i64 (H:Nat)) (hA.at_ (k:=9) (by kernel_rfl));go_simp;exact hK (.int .i64 (H:Nat)) g W rfl (Ev.refl hM.1.te.tw) hM
         |15,_,ho =>
          cases ho;have f16:=a0a (v:= .int .i64 (ci:Nat)) (hA.at_ (k:=16) (by kernel_rfl));go_simp;exact hK (.int .i64 (ci:Nat)) g W rfl (Ev.refl hM.1.te.tw) hM
         |16,_,ho =>
          cases ho;have f15:=a0a (v:= .int .i64 (j:Nat)) (hA.at_ (k:=15) (by kernel_rfl));go_simp;exact hK (.int .i64 (j:Nat)) g W rfl (Ev.refl hM.1.te.tw) hM
         |17,_,ho =>
          cases ho;have f129:=a0f hD 12 129 (by kernel_rfl) rfl rfl;have f130:=a0a (v:= .int .i64 (1+(N:Nat))) (a0f hD 13 130 (by kernel_rfl) rfl rfl);have f131:=a0a (v:= .int .i64 (H:Nat)) (a0f hD 14 131 (by kernel_rfl) rfl rfl);have f132:=a0a (v:= .int .i64 (ci:Nat)) (a0f hD 15 132 (by kernel_rfl) rfl rfl);have f133:=a0a (v:= .int .i64 (j:Nat)) (a0f hD 16 133 (by kernel_rfl) rfl rfl);obtain⟨x0,x1,x2,x3,x4,x5,e129,q0,q1,q2,q3,q4,q5⟩:=f129;have f129:=a0a e129;go_simp;refine (hM.1.cell x0 x1 x2 x3 x4 x5 _ _ _ _ q0 q1 q2 q3 q4 q5 (by omega) (by omega)).mono ?_;rintro e W'⟨v,rfl,hp,h1,h2⟩;go_simp;exact hK v g W' hp h2 ⟨h1,hM.2.trans h2⟩
         |18,_,ho =>
          cases ho;have f10:=a0a (v:= .pointer (some ⟨BO,0,none⟩)) (hA.at_ (k:=10) (by kernel_rfl));obtain⟨y0,c0,q0⟩:=hM.1.m7.ob.at_ (q:=0) (by omega);obtain⟨y1,c1,q1⟩:=hM.1.m7.ob.at_ (q:=1) (by omega);obtain⟨y2,c2,q2⟩:=hM.1.m7.ob.at_ (q:=2) (by omega);obtain⟨y3,c3,q3⟩:=hM.1.m7.ob.at_ (q:=3) (by omega);obtain⟨y4,c4,q4⟩:=hM.1.m7.ob.at_ (q:=4) (by omega);obtain⟨y5,c5,q5⟩:=hM.1.m7.ob.at_ (q:=5) (by omega);go_simp;exact hK _ g W ⟨_,_,_,_,_,_,rfl,q0,q1,q2,q3,q4,q5⟩ (Ev.refl hM.1.te.tw) hM
         |19,_,ho =>
          cases ho;have f8:=a0a (v:= .int .i64 (1+(N:Nat))) (hA.at_ (k:=8) (by kernel_rfl));go_simp;exact hK (.int .i64 (1+(N:Nat))) g W rfl (Ev.refl hM.1.te.tw) hM
         |20,_,ho =>
          cases ho;have f9:=a0a (v:= .int .i64 (H:Nat)) (hA.at_ (k:=9) (by kernel_rfl));go_simp;exact hK (.int .i64 (H:Nat)) g W rfl (Ev.refl hM.1.te.tw) hM
         |21,_,ho =>
          cases ho;have f16:=a0a (v:= .int .i64 (ci:Nat)) (hA.at_ (k:=16) (by kernel_rfl));go_simp;exact hK (.int .i64 (ci:Nat)) g W rfl (Ev.refl hM.1.te.tw) hM
         |22,_,ho =>
          cases ho;have f15:=a0a (v:= .int .i64 (j:Nat)) (hA.at_ (k:=15) (by kernel_rfl));go_simp;exact hK (.int .i64 (j:Nat)) g W rfl (Ev.refl hM.1.te.tw) hM
         |23,_,ho =>
          cases ho;have f139:=a0a (v:= .int .i64 (j:Nat)) (a0f hD 22 139 (by kernel_rfl) rfl rfl);go_simp;exact hK (.int .i64 ((j:Nat)-1)) g W rfl (Ev.refl hM.1.te.tw) hM
         |24,_,ho =>
          cases ho;have f135:=a0f hD 18 135 (by kernel_rfl) rfl rfl;have f136:=a0a (v:= .int .i64 (1+(N:Nat))) (a0f hD 19 136 (by kernel_rfl) rfl rfl);have f137:=a0a (v:= .int .i64 (H:Nat)) (a0f hD 20 137 (by kernel_rfl) rfl rfl);have f138:=a0a (v:= .int .i64 (ci:Nat)) (a0f hD 21 138 (by kernel_rfl) rfl rfl);have f140:=a0a (v:= .int .i64 ((j:Nat)-1)) (a0f hD 23 140 (by kernel_rfl) rfl rfl);obtain⟨x0,x1,x2,x3,x4,x5,e135,q0,q1,q2,q3,q4,q5⟩:=f135;have f135:=a0a e135;go_simp;refine (hM.1.cell x0 x1 x2 x3 x4 x5 _ _ _ _ q0 q1 q2 q3 q4 q5 (by omega) (by omega)).mono ?_;rintro e W'⟨v,rfl,hp,h1,h2⟩;go_simp;exact hK v g W' hp h2 ⟨h1,hM.2.trans h2⟩
         |25,_,ho =>
          cases ho;have f13:=a0a (v:= .pointer (some ⟨E,0,none⟩)) (hA.at_ (k:=13) (by kernel_rfl));go_simp;exact hK (.pointer (some ⟨E,0,none⟩)) g W rfl (Ev.refl hM.1.te.tw) hM
         |i+26,hi,_=>exact absurd hi (by omega)
        ·intro bb S2 W hM hA hall
         have hP0:=(show bb.eval (.tmp 117)=ev from hall 0 (by omega) _ _ rfl rfl);obtain⟨q,hP11,hq⟩:=(show ∃n,SL S2 W 26 (bb.eval (.tmp 128)) n∧n≤6 from hall 11 (by omega) _ _ rfl rfl);obtain⟨l,hP17,fl⟩:=(show ∃x,bb.eval (.tmp 134)= .int .i64 x∧a0k x from hall 17 (by omega) _ _ rfl rfl);obtain⟨r,hP24,fr⟩:=(show ∃x,bb.eval (.tmp 141)= .int .i64 x∧a0k x from hall 24 (by omega) _ _ rfl rfl);have hP25:=(show bb.eval (.tmp 142)= .pointer (some ⟨E,0,none⟩) from hall 25 (by omega) _ _ rfl rfl);obtain⟨pv,hpv⟩:∃v,bb.eval (.tmp 128)=v:=⟨_,rfl⟩;rw[hpv] at hP11;have hfr:=hA.frame [T,T,T,T,T,T,T,T,T,T,T,T,T,T,T,T,T,T,T,T,T,T,T,T,T,T,T,T,T,T,T,T,T,T,T,T,T,T,T,T,T,T,T,T,T,T,T,T,T,T,T,T,T,T,T,T,T,T,T,T,T,T,T,T,T,T,T,T,T,T,T,T,T,T,T,T,T,T,T,T,T,T,T,T,T,T,T,T,T,T,T,T,T,T,T,T,T,T,T,T,T,T,T,T,T,T,T,T,T,T,T,T,T,T,T,T,T,F,F,F,F,F,F,F,F,F,F,F,F,F,F,F,F,F,F,F,F,F,F,F,F,F,F,T,T,T,T,T,T,T,T,T,T,T,T,T,T,T,T,T,T,T,T,T,T,T,T,T,T,T,T,T,T,T,T,T,T,T,T,T,T,T,T,T,T,T,T,T,T,T,T,T,T,T,T,T,T,T,T,T,T,T,T,T,T,T,T,T] _ rfl (by kernel_rfl);clear hall hA;obtain⟨f,hf⟩:∃f:Nat→Value,(fun k=>bb.tmps.getD k undef)=f:=⟨_,rfl⟩;have g0:f 117=ev:=by rw[←hf,←hP0];rfl
         have g1:f 128=pv:=by rw[←hf,←hpv];rfl
         have g2:f 134= .int .i64 l:=by rw[←hf,←hP17];rfl
         have g3:f 141= .int .i64 r:=by rw[←hf,←hP24];rfl
         have g4:f 142= .pointer (some ⟨E,0,none⟩):=by rw[←hf,←hP25];rfl
         rw[hf] at hfr;clear hf hP0 hP17 hP24 hP25 hpv;subst hfr;simp only[a2k,g0,g1,g2,g3,g4,Nat.reduceAdd];clear g0 g1 g2 g3 g4;simp only[List.drop_succ_cons,List.drop_zero];have hse:=hM.2.sl hsl;go_wp2_with (first
          |(go_at_call 126;refine (hM.1.add ev n hse (by omega) pv q hP11 (by omega) l r fl fr).mono ?_;rintro e W9⟨S9,v9,rfl,⟨m9,hsl9,hm9⟩,ht9,he9⟩)
          |fail)
         go_roundw
         case rel=>exact⟨ci+1,m9,S9,by omega,by go_num,by omega,hsl9,ht9⟩
         case measure=>simp[intOf];omega
       ·obtain rfl:ci=N+1:=by omega
        have hge:¬(((N+1:Nat):Int)<1+(N:Int)):=by omega
        go_wp2_with fail;go_roundw
        case rel=>exact⟨j+1,n,S1,by omega,by go_num,by omega,hsl,hm⟩
        case measure=>simp[intOf];omega
     ·obtain rfl:j=H+1:=by omega
      have hge:¬((H+1:Nat):Int)≤(H:Int):=by omega
      go_wp2_with fail;go_loopw [14,17] (fun v kk wr=>∃(j n:Nat) (S:BS),j≤H∧kk= .int .i64 (j:Nat)∧n≤9+4*j∧SL S wr 206 v n∧M8 w D BO fv fs E tv ts S wr) (fun _ kk _=>H-(intOf kk).toNat)
      case atStart=>exact⟨0,n,S1,by omega,rfl,by omega,hsl,hm⟩
      case round =>
       clear hm hsl hn hge hlj hj;obtain⟨j,n,S1,hj,rfl,hn,hsl,hm⟩:=hrel;by_cases hlj:j<H
       ·have hljI:(j:Int)<(H:Int):=by omega
        go_wp2_with fail;go_loopw [14,18] (fun v kk wr=>∃(i n:Nat) (S:BS),i≤N+2∧kk= .int .i64 (i:Nat)∧n≤9+4*j+i∧SL S wr 206 v n∧M8 w D BO fv fs E tv ts S wr) (fun _ kk _=>N+2-(intOf kk).toNat)
        case atStart=>exact⟨0,n,S1,by omega,rfl,by omega,hsl,hm⟩
        case round =>
         clear hm hsl hn;obtain⟨ci,n,S1,hi,rfl,hn,hsl,hm⟩:=hrel;by_cases hli:ci≤N+1
         ·have hliI:(ci:Int)≤1+(N:Int):=by omega
          go_upto_region 40 with fail;have hwc:IntKind.i64.wrap ((ci:Int)+1)=ci+1:=a0u (by omega) (by omega);have hwj:IntKind.i64.wrap ((j:Int)+1)=j+1:=a0u (by omega) (by omega);have hwd:IntKind.i64.wrap ((ci:Int)-1)=ci-1:=a0u (by omega) (by omega);have hwe:IntKind.i64.wrap ((j:Int)-1)=j-1:=a0u (by omega) (by omega);obtain⟨ev,hev⟩:∃v,v=u14:=⟨_,rfl⟩;subst hev;refine Go.wp_region_reln 26 (by kernel_rfl) (by kernel_rfl) (fun _ S' W=>M8 w D BO fv fs E tv ts S' W∧Ev (a9j E) S1 wr S' W) (fun S W S' W'=>Ev (a9j E) S W S' W') (FMb ev sv ci j N H E) (fun _ _ _ _ _ _ h g=>h.kept g) S1 ⟨hm.evo (Ev.drew hm.te.tw),Ev.drew hm.te.tw⟩ ?_ ?_
          ·clear hsl hm hn hts
           intro k o hk ho c bb g W hc hM hA hD K hK;match k,hk,ho with
           |0,_,ho =>
            cases ho;have f14:=a0a (v:=ev) (hA.at_ (k:=14) (by kernel_rfl));go_simp;exact hK (ev) g W rfl (Ev.refl hM.1.te.tw) hM
           |1,_,ho =>
            cases ho;have f5:=a0a (v:=sv) (hA.at_ (k:=5) (by kernel_rfl));go_simp;exact hK (sv) g W rfl (Ev.refl hM.1.te.tw) hM
           |2,_,ho =>
            cases ho;have f18:=a0a (v:= .int .i64 (ci:Nat)) (hA.at_ (k:=18) (by kernel_rfl));go_simp;exact hK (.int .i64 (ci:Nat)) g W rfl (Ev.refl hM.1.te.tw) hM
           |3,_,ho =>
            cases ho;have f17:=a0a (v:= .int .i64 (j:Nat)) (hA.at_ (k:=17) (by kernel_rfl));go_simp;exact hK (.int .i64 (j:Nat)) g W rfl (Ev.refl hM.1.te.tw) hM
           |4,_,ho =>
            cases ho;have f155:=a0a (v:=sv) (a0f hD 1 155 (by kernel_rfl) rfl rfl);have f156:=a0a (v:= .int .i64 (ci:Nat)) (a0f hD 2 156 (by kernel_rfl) rfl rfl);have f157:=a0a (v:= .int .i64 (j:Nat)) (a0f hD 3 157 (by kernel_rfl) rfl rfl);go_simp;refine (hM.1.node hss (ci) (j) (by omega) (by omega) (by omega) (by omega)).mono ?_;rintro e W'⟨v,rfl,hp,h1,h2⟩;go_simp;exact hK v g W' hp h2 ⟨h1,hM.2.trans h2⟩
           |5,_,ho =>
            cases ho;have f5:=a0a (v:=sv) (hA.at_ (k:=5) (by kernel_rfl));go_simp;exact hK (sv) g W rfl (Ev.refl hM.1.te.tw) hM
           |6,_,ho =>
            cases ho;have f18:=a0a (v:= .int .i64 (ci:Nat)) (hA.at_ (k:=18) (by kernel_rfl));go_simp;exact hK (.int .i64 (ci:Nat)) g W rfl (Ev.refl hM.1.te.tw) hM
           |7,_,ho =>
            cases ho;have f17:=a0a (v:= .int .i64 (j:Nat)) (hA.at_ (k:=17) (by kernel_rfl));go_simp;exact hK (.int .i64 (j:Nat)) g W rfl (Ev.refl hM.1.te.tw) hM
           |8,_,ho =>
            cases ho;have f161:=a0a (v:= .int .i64 (j:Nat)) (a0f hD 7 161 (by kernel_rfl) rfl rfl);go_simp;exact hK (.int .i64 ((j:Nat)+1)) g W rfl (Ev.refl hM.1.te.tw) hM
           |9,_,ho =>
            cases ho;have f159:=a0a (v:=sv) (a0f hD 5 159 (by kernel_rfl) rfl rfl);have f160:=a0a (v:= .int .i64 (ci:Nat)) (a0f hD 6 160 (by kernel_rfl) rfl rfl);have f162:=a0a (v:= .int .i64 ((j:Nat)+1)) (a0f hD 8 162 (by kernel_rfl) rfl rfl);go_simp;refine (hM.1.node hss (ci) (j+1) (by omega) (by omega) (by omega) (by omega)).mono ?_;rintro e W'⟨v,rfl,hp,h1,h2⟩;go_simp;exact hK v g W' hp h2 ⟨h1,hM.2.trans h2⟩
           |10,_,ho =>
            cases ho;have f13:=a0a (v:= .pointer (some ⟨E,0,none⟩)) (hA.at_ (k:=13) (by kernel_rfl));go_simp;exact hK (.pointer (some ⟨E,0,none⟩)) g W rfl (Ev.refl hM.1.te.tw) hM
           |11,_,ho =>
            cases ho;have f158:=a0f hD 4 158 (by kernel_rfl) rfl rfl;have f163:=a0f hD 9 163 (by kernel_rfl) rfl rfl;have f164:=a0a (v:= .pointer (some ⟨E,0,none⟩)) (a0f hD 10 164 (by kernel_rfl) rfl rfl);obtain⟨ax,ay,e158,fa,fb⟩:=f158;obtain⟨bx,by_,e163,fc,fd⟩:=f163;have f158:=a0a e158;have f163:=a0a e163;go_simp;refine (hM.1.wiggle ax ay bx by_ fa fb fc fd).mono ?_;rintro e W'⟨S',v,rfl,hp,h1,h2⟩;go_simp;exact hK v S' W' hp h2 ⟨h1,hM.2.trans h2⟩
           |12,_,ho =>
            cases ho;have f10:=a0a (v:= .pointer (some ⟨BO,0,none⟩)) (hA.at_ (k:=10) (by kernel_rfl));obtain⟨y0,c0,q0⟩:=hM.1.m7.ob.at_ (q:=0) (by omega);obtain⟨y1,c1,q1⟩:=hM.1.m7.ob.at_ (q:=1) (by omega);obtain⟨y2,c2,q2⟩:=hM.1.m7.ob.at_ (q:=2) (by omega);obtain⟨y3,c3,q3⟩:=hM.1.m7.ob.at_ (q:=3) (by omega);obtain⟨y4,c4,q4⟩:=hM.1.m7.ob.at_ (q:=4) (by omega);obtain⟨y5,c5,q5⟩:=hM.1.m7.ob.at_ (q:=5) (by omega);go_simp;exact hK _ g W ⟨_,_,_,_,_,_,rfl,q0,q1,q2,q3,q4,q5⟩ (Ev.refl hM.1.te.tw) hM
           |13,_,ho =>
            cases ho;have f8:=a0a (v:= .int .i64 (1+(N:Nat))) (hA.at_ (k:=8) (by kernel_rfl));go_simp;exact hK (.int .i64 (1+(N:Nat))) g W rfl (Ev.refl hM.1.te.tw) hM
           |14,_,ho =>
            cases ho;have f9:=a0a (v:= .int .i64 (H:Nat)) (hA.at_ (k:=9) (by kernel_rfl));go_simp;exact hK (.int .i64 (H:Nat)) g W rfl (Ev.refl hM.1.te.tw) hM
           |15,_,ho =>
            cases ho;have f18:=a0a (v:= .int .i64 (ci:Nat)) (hA.at_ (k:=18) (by kernel_rfl));go_simp;exact hK (.int .i64 (ci:Nat)) g W rfl (Ev.refl hM.1.te.tw) hM
           |16,_,ho =>
            cases ho;have f169:=a0a (v:= .int .i64 (ci:Nat)) (a0f hD 15 169 (by kernel_rfl) rfl rfl);go_simp;exact hK (.int .i64 ((ci:Nat)-1)) g W rfl (Ev.refl hM.1.te.tw) hM
           |17,_,ho =>
            cases ho;have f17:=a0a (v:= .int .i64 (j:Nat)) (hA.at_ (k:=17) (by kernel_rfl));go_simp;exact hK (.int .i64 (j:Nat)) g W rfl (Ev.refl hM.1.te.tw) hM
           |18,_,ho =>
            cases ho;have f166:=a0f hD 12 166 (by kernel_rfl) rfl rfl;have f167:=a0a (v:= .int .i64 (1+(N:Nat))) (a0f hD 13 167 (by kernel_rfl) rfl rfl);have f168:=a0a (v:= .int .i64 (H:Nat)) (a0f hD 14 168 (by kernel_rfl) rfl rfl);have f170:=a0a (v:= .int .i64 ((ci:Nat)-1)) (a0f hD 16 170 (by kernel_rfl) rfl rfl);have f171:=a0a (v:= .int .i64 (j:Nat)) (a0f hD 17 171 (by kernel_rfl) rfl rfl);obtain⟨x0,x1,x2,x3,x4,x5,e166,q0,q1,q2,q3,q4,q5⟩:=f166;have f166:=a0a e166;go_simp;refine (hM.1.cell x0 x1 x2 x3 x4 x5 _ _ _ _ q0 q1 q2 q3 q4 q5 (by omega) (by omega)).mono ?_;rintro e W'⟨v,rfl,hp,h1,h2⟩;go_simp;exact hK v g W' hp h2 ⟨h1,hM.2.trans h2⟩
           |19,_,ho =>
            cases ho;have f10:=a0a (v:= .pointer (some ⟨BO,0,none⟩)) (hA.at_ (k:=10) (by kernel_rfl));obtain⟨y0,c0,q0⟩:=hM.1.m7.ob.at_ (q:=0) (by omega);obtain⟨y1,c1,q1⟩:=hM.1.m7.ob.at_ (q:=1) (by omega);obtain⟨y2,c2,q2⟩:=hM.1.m7.ob.at_ (q:=2) (by omega);obtain⟨y3,c3,q3⟩:=hM.1.m7.ob.at_ (q:=3) (by omega);obtain⟨y4,c4,q4⟩:=hM.1.m7.ob.at_ (q:=4) (by omega);obtain⟨y5,c5,q5⟩:=hM.1.m7.ob.at_ (q:=5) (by omega);go_simp;exact hK _ g W ⟨_,_,_,_,_,_,rfl,q0,q1,q2,q3,q4,q5⟩ (Ev.refl hM.1.te.tw) hM
           |20,_,ho =>
            cases ho;have f8:=a0a (v:= .int .i64 (1+(N:Nat))) (hA.at_ (k:=8) (by kernel_rfl));go_simp;exact hK (.int .i64 (1+(N:Nat))) g W rfl (Ev.refl hM.1.te.tw) hM
           |21,_,ho =>
            cases ho;have f9:=a0a (v:= .int .i64 (H:Nat)) (hA.at_ (k:=9) (by kernel_rfl));go_simp;exact hK (.int .i64 (H:Nat)) g W rfl (Ev.refl hM.1.te.tw) hM
           |22,_,ho =>
            cases ho;have f18:=a0a (v:= .int .i64 (ci:Nat)) (hA.at_ (k:=18) (by kernel_rfl));go_simp;exact hK (.int .i64 (ci:Nat)) g W rfl (Ev.refl hM.1.te.tw) hM
           |23,_,ho =>
            cases ho;have f17:=a0a (v:= .int .i64 (j:Nat)) (hA.at_ (k:=17) (by kernel_rfl));go_simp;exact hK (.int .i64 (j:Nat)) g W rfl (Ev.refl hM.1.te.tw) hM
           |24,_,ho =>
            cases ho;have f173:=a0f hD 19 173 (by kernel_rfl) rfl rfl;have f174:=a0a (v:= .int .i64 (1+(N:Nat))) (a0f hD 20 174 (by kernel_rfl) rfl rfl);have f175:=a0a (v:= .int .i64 (H:Nat)) (a0f hD 21 175 (by kernel_rfl) rfl rfl);have f176:=a0a (v:= .int .i64 (ci:Nat)) (a0f hD 22 176 (by kernel_rfl) rfl rfl);have f177:=a0a (v:= .int .i64 (j:Nat)) (a0f hD 23 177 (by kernel_rfl) rfl rfl);obtain⟨x0,x1,x2,x3,x4,x5,e173,q0,q1,q2,q3,q4,q5⟩:=f173;have f173:=a0a e173;go_simp;refine (hM.1.cell x0 x1 x2 x3 x4 x5 _ _ _ _ q0 q1 q2 q3 q4 q5 (by omega) (by omega)).mono ?_;rintro e W'⟨v,rfl,hp,h1,h2⟩;go_simp;exact hK v g W' hp h2 ⟨h1,hM.2.trans h2⟩
           |25,_,ho =>
            cases ho;have f13:=a0a (v:= .pointer (some ⟨E,0,none⟩)) (hA.at_ (k:=13) (by kernel_rfl));go_simp;exact hK (.pointer (some ⟨E,0,none⟩)) g W rfl (Ev.refl hM.1.te.tw) hM
           |i+26,hi,_=>exact absurd hi (by omega)
          ·intro bb S2 W hM hA hall
           have hP0:=(show bb.eval (.tmp 154)=ev from hall 0 (by omega) _ _ rfl rfl);obtain⟨q,hP11,hq⟩:=(show ∃n,SL S2 W 26 (bb.eval (.tmp 165)) n∧n≤6 from hall 11 (by omega) _ _ rfl rfl);obtain⟨l,hP17,fl⟩:=(show ∃x,bb.eval (.tmp 172)= .int .i64 x∧a0k x from hall 18 (by omega) _ _ rfl rfl);obtain⟨r,hP24,fr⟩:=(show ∃x,bb.eval (.tmp 178)= .int .i64 x∧a0k x from hall 24 (by omega) _ _ rfl rfl);have hP25:=(show bb.eval (.tmp 179)= .pointer (some ⟨E,0,none⟩) from hall 25 (by omega) _ _ rfl rfl);obtain⟨pv,hpv⟩:∃v,bb.eval (.tmp 165)=v:=⟨_,rfl⟩;rw[hpv] at hP11;have hfr:=hA.frame [T,T,T,T,T,T,T,T,T,T,T,T,T,T,T,T,T,T,T,T,T,T,T,T,T,T,T,T,T,T,T,T,T,T,T,T,T,T,T,T,T,T,T,T,T,T,T,T,T,T,T,T,T,T,T,T,T,T,T,T,T,T,T,T,T,T,T,T,T,T,T,T,T,T,T,T,T,T,T,T,T,T,T,T,T,T,T,T,T,T,T,T,T,T,T,T,T,T,T,T,T,T,T,T,T,T,T,T,T,T,T,T,T,T,T,T,T,T,T,T,T,T,T,T,T,T,T,T,T,T,T,T,T,T,T,T,T,T,T,T,T,T,T,T,T,T,T,T,T,T,T,T,T,T,F,F,F,F,F,F,F,F,F,F,F,F,F,F,F,F,F,F,F,F,F,F,F,F,F,F,T,T,T,T,T,T,T,T,T,T,T,T,T,T,T,T,T,T,T,T,T,T,T,T,T,T,T,T] _ rfl (by kernel_rfl);clear hall hA;obtain⟨f,hf⟩:∃f:Nat→Value,(fun k=>bb.tmps.getD k undef)=f:=⟨_,rfl⟩;have g0:f 154=ev:=by rw[←hf,←hP0];rfl
           have g1:f 165=pv:=by rw[←hf,←hpv];rfl
           have g2:f 172= .int .i64 l:=by rw[←hf,←hP17];rfl
           have g3:f 178= .int .i64 r:=by rw[←hf,←hP24];rfl
           have g4:f 179= .pointer (some ⟨E,0,none⟩):=by rw[←hf,←hP25];rfl
           rw[hf] at hfr;clear hf hP0 hP17 hP24 hP25 hpv;subst hfr;simp only[a2k,g0,g1,g2,g3,g4,Nat.reduceAdd];clear g0 g1 g2 g3 g4;simp only[List.drop_succ_cons,List.drop_zero];have hse:=hM.2.sl hsl;go_wp2_with (first
            |(go_at_call 126;refine (hM.1.add ev n hse (by omega) pv q hP11 (by omega) l r fl fr).mono ?_;rintro e W9⟨S9,v9,rfl,⟨m9,hsl9,hm9⟩,ht9,he9⟩)
            |fail)
           go_roundw
           case rel=>exact⟨ci+1,m9,S9,by omega,by go_num,by omega,hsl9,ht9⟩
           case measure=>simp[intOf];omega
         ·obtain rfl:ci=N+2:=by omega
          have hge:¬(((N+2:Nat):Int)≤1+(N:Int)):=by omega
          go_wp2_with fail;go_roundw
          case rel=>exact⟨j+1,n,S1,by omega,by go_num,by omega,hsl,hm⟩
          case measure=>simp[intOf];omega
       ·obtain rfl:j=H:=by omega
        have hge:¬(j:Int)<(j:Int):=by omega
        go_upto_if 183 with (first
         |(go_at_call 73;refine (hm.next 2 (by omega) (by omega)).mono ?_;rintro e W5⟨d1,rfl,d10,d11,hm5,hg5,he5⟩)
         |fail)
        have hse5:=he5.sl hsl;clear hm hsl hg5 he5;by_cases hd:d1=1
        ·subst hd
         go_upto_region 43 with (first
          |(go_at_call 73;refine (hm5.next (1+(N:Int)) (by omega) (by omega)).mono ?_;rintro e W6⟨x,rfl,x0,x1,hm6,hg6,he6⟩)
          |fail)
         have hse6:=he6.sl hse5;clear hm5 hse5 hg6 he6;go_upto_region 44 with (first
          |(go_at_call 73;refine (hm6.next (j:Int) (by omega) (by omega)).mono ?_;rintro e W7⟨y,rfl,y0,y1,hm7,hg7,he7⟩)
          |fail)
         have hse7:=he7.sl hse6;clear hm6 hse6 hg7 he7;obtain⟨x,rfl⟩:∃n:Nat,x=n:=⟨x.toNat,by omega⟩;obtain⟨y,rfl⟩:∃n:Nat,y=n:=⟨y.toNat,by omega⟩;obtain⟨z,cz,fz⟩:=hm7.m7.ob.at_ (q:=x*2+y) (by omega);go_upto_region 45 with (first
          |(go_at_call 130;refine (hm7.island u14 n hse7 (by omega) _ _ _ (by first|with_reducible (first|exact a0j _|exact a0m _|assumption|exact a0n (by omega))|exact⟨by omega,by omega⟩) (by first|with_reducible (first|exact a0j _|exact a0m _|assumption|exact a0n (by omega))|exact⟨by omega,by omega⟩) fz).mono ?_;rintro e W8⟨S8,v8,rfl,⟨nF,hsF,hm8'⟩,hmF,he8⟩)
          |fail)
         clear hm7 hse7 he8 cz;go_wp2_with (first
          |(go_at_call 131;refine (b7d _ _ hmF.te.tw _ nF hsF (by omega)).mono ?_;rintro e WF⟨SF,vF,rfl,⟨nf,hf1,hf2⟩,heF⟩)
          |fail)
         go_ret2;exact⟨SF,_,_,rfl,⟨nF,nf,heF.sl hsF,by omega,hf1,hf2⟩,hmF.m7.bel.trans heF⟩
        ·have hdb:(d1==1)=false:=by simpa using hd
         go_upto_region 45 with fail;have hmF:=hm5;have hsF:=hse5;obtain⟨nF,hnF⟩:∃k,n=k:=⟨_,rfl⟩;rw[hnF] at hsF;clear hm5 hse5;go_wp2_with (first
          |(go_at_call 131;refine (b7d _ _ hmF.te.tw _ nF hsF (by omega)).mono ?_;rintro e WF⟨SF,vF,rfl,⟨nf,hf1,hf2⟩,heF⟩)
          |fail)
         go_ret2;exact⟨SF,_,_,rfl,⟨nF,nf,heF.sl hsF,by omega,hf1,hf2⟩,hmF.m7.bel.trans heF⟩
end
end Go.Proofs.YtfocdbjceedagaaGreatDoor
