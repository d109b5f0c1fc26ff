/-
  Parts.
-/
import Derived.Test.YtfocdbjceedagaaGreatDoorXaj
import Derived.Lib.FrozenHead2
import Derived.Lib.OthersKept
import Derived.Laws.RangeString
import Derived.Deep.WholeRow
import Derived.Laws.Rows
import Derived.Laws.IdiomStrings
set_option linter.unusedVariables false
set_option linter.unusedSimpArgs false
set_option maxHeartbeats 8000000
set_option maxRecDepth 100000
namespace Go.Proofs.YtfocdbjceedagaaGreatDoor
open Tryz
section
open Go.RowKit Go.Shelf Go.Lib Go.Sort
attribute [local go_sem] Oper.semAt_some
attribute [local go_sem ↓] Go.wp_at_zero Go.wp_at_succ
theorem b0s (blk off cap N n a b:Nat)(d:Array Pc)(w0 w:World)(hW:SoW w0 blk off N n d w)(hab:a≤b)(hbn:b≤n)(hn:n≤1000) :
 Calls prog 170 #[.slice (some ⟨blk,off,none⟩) n cap,.int .i64 (a:Nat),.int .i64 (b:Nat),.func (.func 103) #[] #[]] w fun e w'=>e= .returned (.tuple #[])∧SoW w0 blk off N n (insertionSort (ltOf a1z) d a b) w':=by
 have mixed:prog.follows .mixedOrders=true:=by kernel_rfl
 have HW:Hid (SoW w0 blk off N n d w):=hW;clear hW;go_enter func170,ntmps170;go_wp2_with fail;go_loopw [8] (fun vi wr=>∃(i:Nat) (dk:Array Pc),vi= .int .i64 (i:Nat)∧a+1≤i∧i≤b+1∧Hid (SoW w0 blk off N n dk wr)∧Hid (insOuter (ltOf a1z) a b i dk=insOuter (ltOf a1z) a b (a+1) d)) (fun vi _=>b+1-(intOf vi).toNat)
 case atStart=>exact⟨a+1,d,by go_num,by omega,by omega,HW,rfl⟩
 case round =>
  obtain⟨i,dk,rfl,hi1,hin,HR,HO⟩:=hrel;by_cases hlt:i<b
  ·have hltI:(i:Int)<(b:Int):=by omega
   go_wp2_with fail;go_loopw [9] (fun vj wr2=>∃(j:Nat) (dj:Array Pc),vj= .int .i64 (j:Nat)∧a≤j∧j≤i∧Hid (SoW w0 blk off N n dj wr2)∧Hid (insInner (ltOf a1z) a j dj=insInner (ltOf a1z) a i dk)) (fun vj _=>(intOf vj).toNat)
   case atStart=>exact⟨i,dk,rfl,by omega,by omega,HR,rfl⟩
   case round =>
    obtain⟨j,dj,rfl,haj,hji,HJ,HI⟩:=hrel;have out:Hid ((j≤a∨ltOf a1z dj[j]! dj[j-1]! =false)→insOuter (ltOf a1z) a b (i+1) dj=insOuter (ltOf a1z) a b (a+1) d):=fun hs=>by
     rw[←HO.out,insOuter_go _ _ _ _ _ hlt,←HI.out,insInner_stop _ _ _ _ hs]
    by_cases hj0:a<j
    ·have hj0I:(a:Int)<(j:Int):=by omega
     obtain⟨jp,rfl⟩:∃jp,j=jp+1:=⟨j-1,by omega⟩;have haI:(a:Int)<(jp:Int)+1:=by omega
     have hjn:jp+1<dj.size:=by rw[HJ.out.sz];omega
     obtain⟨xj,hxj⟩:∃x,dj[jp+1]! =x:=⟨_,rfl⟩;obtain⟨xp,hxp⟩:∃x,dj[jp]! =x:=⟨_,rfl⟩;obtain⟨a0,a1,a2,a3,a4,a5,a6⟩:=hxj▸HJ.out.row.pc hjn;obtain⟨b0,b1,b2,b3,b4,b5,b6⟩:=hxp▸HJ.out.row.pc (j:=jp) (by omega);have HX:Hid (dj[jp+1]! =xj∧dj[jp]! =xp):=⟨hxj,hxp⟩;obtain⟨cv,hcv⟩:∃c,a1z xj xp=c:=⟨_,rfl⟩;have hcmp:∀W,Calls prog 103 #[plV xj,plV xp] W fun e w'=>e= .returned (.int .i64 cv)∧Below W.heap.size W w':=fun W=>by rw[←hcv];exact a5m xj xp W
     have HC:Hid (a1z xj xp=cv):=hcv;clear hxj hxp hcv;obtain⟨i1,x1,y1,cl1,n1,wt1,d1⟩:=xj;obtain⟨i2,x2,y2,cl2,n2,wt2,d2⟩:=xp;have hwp:IntKind.i64.wrap (jp:Int)=(jp:Int):=by rw[IntKind.wrap_i64];omega
     have hjnI:(jp:Int)+1<(n:Int):=by omega
     have hjnI2:(jp:Int)<(n:Int):=by omega
     have hp0:(0:Int)≤(jp:Int)+1:=by omega
     have he0:((jp:Int)+1).toNat=jp+1:=by omega
     by_cases hlv:cv<0
     ·go_wp2_with fail
      first|with_reducible refine a0t (by kernel_rfl) (by kernel_rfl) ?_|with_reducible refine a0v (by kernel_rfl) (by kernel_rfl) ?_
      repeat (first|go_big_quiet_step ((go_at_call 103;exact Calls.grow_of (hcmp _)))|quiet_step ((go_at_call 103;exact Calls.grow_of (hcmp _))))
      refine wpQuiet_nil ?_;intro _ hw_;obtain⟨p,hw_⟩:=hw_;subst hw_;go_upto_region 6 with fail;obtain⟨W2,hW2⟩:∃W,wr.growBy p=W:=⟨_,rfl⟩;rw[hW2];have HJ2:SoW w0 blk off N n dj W2:=by rw[←hW2];exact HJ.out.below (below_growBy _ _)
      clear a0 a1 a2 a3 a4 a5 a6 b0 b1 b2 b3 b4 b5 b6 hW2 hcmp;obtain⟨a0,a1,a2,a3,a4,a5,a6⟩:=HX.out.1▸HJ2.row.pc hjn;obtain⟨b0,b1,b2,b3,b4,b5,b6⟩:=HX.out.2▸HJ2.row.pc (j:=jp) (by omega);obtain⟨f0,f1,f2,f3,f4,f5,f6⟩:=HJ2.row.pf hjn;obtain⟨g0,g1,g2,g3,g4,g5,g6⟩:=HJ2.row.pf (j:=jp) (by omega);have HJ3:=Lib.hid (HJ2.swap (j:=jp) (by omega));have hjj:jp+1<n:=by omega
      replace HJ2:=Lib.hid HJ2;simp only at a0 a1 a2 a3 a4 a5 a6 b0 b1 b2 b3 b4 b5 b6;go_big_region_o
      all_goals go_wp2_with fail
      go_roundw
      case rel =>
       refine⟨jp,swp dj (jp+1) jp,by go_num,by omega,by omega,?_,?_⟩
       ·have h3:=HJ3.out
        unfold c7a at h3;rw[HX.out.1,HX.out.2,a7i] at h3;exact Lib.hid h3.drew
       ·show _=_
        have h4:=insInner_go (ltOf a1z) a (jp+1) dj hj0 (by rw[HX.out.1,show jp+1-1=jp from rfl,HX.out.2,c7c,HC.out];exact hlv);rw[←HI.out,h4];rfl
      case measure=>first|(simp[intOf];done)|(simp[intOf];omega)
     ·go_wp2_with fail
      first|with_reducible refine a0t (by kernel_rfl) (by kernel_rfl) ?_|with_reducible refine a0v (by kernel_rfl) (by kernel_rfl) ?_
      repeat (first|go_big_quiet_step ((go_at_call 103;exact Calls.grow_of (hcmp _)))|quiet_step ((go_at_call 103;exact Calls.grow_of (hcmp _))))
      refine wpQuiet_nil ?_;intro _ hw_;obtain⟨p,hw_⟩:=hw_;subst hw_;go_wp2_with fail;go_roundw
      case rel=>exact⟨i+1,dj,by go_num,by omega,by omega,HJ.out.below (below_growBy _ _),out.out (.inr (by show decide _=false;rw[HX.out.1,show jp+1-1=jp from rfl,HX.out.2,HC.out];exact decide_eq_false (by omega)))⟩
      case measure=>first|(simp[intOf];done)|(simp[intOf];omega)
    ·obtain rfl:j=a:=by omega
     have hj0I:¬(j:Int)<(j:Int):=by omega
     have hSo:=out.out (.inl (yR _));go_wp2_with fail;go_big_region_o
     all_goals go_wp2_with fail
     go_roundw
     case rel=>exact⟨i+1,dj,by go_num,by omega,by omega,Lib.hid HJ.out.drew,hSo⟩
     case measure=>first|(simp[intOf];done)|(simp[intOf];omega)
  ·have hgeI:¬(i:Int)<(b:Int):=by omega
   go_wp2_with fail;go_end0;have h5:=HO.out;rw[insOuter_stop _ _ _ _ _ hlt] at h5;refine⟨rfl,?_⟩;unfold insertionSort;rw[←h5];exact HR.out
theorem b8k (blk cap N n:Nat)(d:Array Pc)(w:World)(hW:SoW w blk 0 N n d w)(hn:n≤1000) :
 Calls prog 150 #[.slice (some ⟨blk,0,none⟩) n cap,.int .i64 (n:Nat),.func (.func 103) #[] #[]] w fun e w'=>e= .returned (.tuple #[])∧SoW w blk 0 N n (insertionSort (ltOf a1z) d 0 n) w':=by
 have mixed:prog.follows .mixedOrders=true:=by kernel_rfl
 have HW:=Lib.hid hW;have hdz:=hW.sz;clear hW;go_enter func150,ntmps150;go_wp2_with fail;go_loopw [7,8] (fun va vb wr=>∃(a:Nat) (dk:Array Pc),va= .int .i64 (a:Nat)∧vb= .int .i64 ((a:Int)+20)∧a≤n∧Hid (SoW w blk 0 N n dk wr)∧Hid (InI (ltOf a1z) 20 a n d dk)) (fun va _ _=>n+1-(intOf va).toNat)
 case atStart=>exact⟨0,d,rfl,rfl,by omega,HW,Lib.hid (InI.start hdz)⟩
 case round =>
  obtain⟨a,dk,rfl,rfl,han,HR,HI⟩:=hrel;by_cases hle:a+20≤n
  ·have hleI:(a:Int)+20≤(n:Int):=by omega
   have hc:=b0s blk 0 cap N n a (a+20) dk w wr HR.out (by omega) hle hn;rw[show ((a+20:Nat):Int)=(a:Int)+20 by omega] at hc;have hw1:IntKind.i64.wrap ((a:Int)+20+20)=(a:Int)+20+20:=by rw[IntKind.wrap_i64];omega
   have hs1:=a3k (lt:=ltOf a1z) c7p dk (show a≤a+20 by omega) (by rw[HR.out.sz];exact hle);have HI2:=Lib.hid (HI.out.step hle hs1);clear hs1;go_wp2_with (first
    |(go_at_call 170;(with_reducible refine hc.mono ?_);rintro e w1⟨rfl,h1⟩)
    |fail)
   go_roundw
   case rel=>exact⟨a+20,_,by go_num,by go_num,hle,Lib.hid h1,HI2⟩
   case measure=>first|(simp[intOf];done)|(simp[intOf];omega)
  ·have hleI:¬(a:Int)+20≤(n:Int):=by omega
   have hc:=b0s blk 0 cap N n a n dk w wr HR.out han (yR _) hn;have hs1:=a3k (lt:=ltOf a1z) c7p dk han (by rw[HR.out.sz];exact yR _);obtain⟨hz2,hst2,hb2⟩:=HI.out.last (by decide) han (by omega) hs1;obtain⟨d2,hd2⟩:∃d2,insertionSort (ltOf a1z) dk a n=d2:=⟨_,rfl⟩;rw[hd2] at hc hz2 hst2 hb2;replace hst2:=Lib.hid hst2;replace hb2:=Lib.hid hb2;clear hs1 hd2 HI;go_wp2_with (first
    |(go_at_call 170;(with_reducible refine hc.mono ?_);rintro e w1⟨rfl,h1⟩)
    |fail)
   replace h1:=Lib.hid h1;clear hc HR;go_loopw [6] (fun vs wr=>∃(s:Nat) (dk:Array Pc),vs= .int .i64 (s:Nat)∧20≤s∧s≤2000∧Hid (SoW w blk 0 N n dk wr)∧Hid (Stb (ltOf a1z) (ext d 0 n) (ext dk 0 n))∧Hid (Bks (ltOf a1z) s n dk)) (fun vs _=>3000-(intOf vs).toNat)
   case atStart=>exact⟨20,d2,rfl,by omega,by omega,h1,hst2,hb2⟩
   case round =>
    obtain⟨s,dk2,rfl,hs20,hs2,HR,HS,HB⟩:=hrel;by_cases hsn:s<n
    ·have hsI:(s:Int)<(n:Int):=by omega
     have hws:IntKind.i64.wrap (2*(s:Int))=2*(s:Int):=by rw[IntKind.wrap_i64];omega
     have hws2:IntKind.i64.wrap ((s:Int)*2)=(s:Int)*2:=by rw[IntKind.wrap_i64];omega
     go_wp2_with fail;go_loopw [7,8] (fun va vb wr=>∃(a:Nat) (dk:Array Pc),va= .int .i64 (a:Nat)∧vb= .int .i64 ((a:Int)+2*(s:Int))∧a≤n∧Hid (SoW w blk 0 N n dk wr)∧Hid (MrI (ltOf a1z) s a n d dk)) (fun va _ _=>n+1-(intOf va).toNat)
     case atStart=>exact⟨0,dk2,rfl,by go_num,by omega,HR,Lib.hid (MrI.start HR.out.sz HS.out HB.out)⟩
     case round =>
      obtain⟨a,dk,rfl,rfl,han,HK,HM⟩:=hrel;have hwa:IntKind.i64.wrap ((a:Int)+(s:Int))=(a:Int)+(s:Int):=by rw[IntKind.wrap_i64];omega
      by_cases hle:a+2*s≤n
      ·have hleI:(a:Int)+2*(s:Int)≤(n:Int):=by omega
       have hwb:IntKind.i64.wrap ((a:Int)+2*(s:Int)+2*(s:Int))=(a:Int)+2*(s:Int)+2*(s:Int):=by rw[IntKind.wrap_i64];omega
       obtain⟨g1,g2⟩:=HM.out.two;have hc:=a5p blk 0 cap N n w hn (2*s) a (a+s) (a+2*s) dk wr (by omega) HK.out (by omega) (by omega) hle (SortedIn.mono g1 (yR _) (by omega)) (SortedIn.mono g2 (yR _) (by omega));rw[show ((a+s:Nat):Int)=(a:Int)+(s:Int) by omega,show ((a+2*s:Nat):Int)=(a:Int)+2*(s:Int) by omega] at hc;clear g1 g2;go_wp2_with (first
        |(go_at_call 171;(with_reducible refine hc.mono ?_);rintro e w1⟨rfl,d3,h3,r3⟩)
        |fail)
       go_roundw
       case rel=>exact⟨a+2*s,d3,by go_num,by go_num,hle,Lib.hid h3,Lib.hid (HM.out.step (by omega) hle r3)⟩
       case measure=>first|(simp[intOf];done)|(simp[intOf];omega)
      ·have hleI:¬(a:Int)+2*(s:Int)≤(n:Int):=by omega
       by_cases hms:a+s<n
       ·have hmI:(a:Int)+(s:Int)<(n:Int):=by omega
        obtain⟨g1,g2⟩:=HM.out.two;have hc:=a5p blk 0 cap N n w hn (2*s) a (a+s) n dk wr (by omega) HK.out (by omega) hms (yR _) (SortedIn.mono g1 (yR _) (by omega)) (SortedIn.mono g2 (yR _) (by omega));rw[show ((a+s:Nat):Int)=(a:Int)+(s:Int) by omega] at hc;clear g1 g2;go_wp2_with (first
         |(go_at_call 171;(with_reducible refine hc.mono ?_);rintro e w1⟨rfl,d3,h3,r3⟩)
         |fail)
        go_roundw
        case rel =>
         obtain⟨-,k2,k3⟩:=HM.out.last (by omega) han (by omega) r3;exact⟨2*s,d3,by go_num,by omega,by omega,Lib.hid h3,Lib.hid k2,Lib.hid k3⟩
        case measure=>first|(simp[intOf];done)|(simp[intOf];omega)
       ·have hmI:¬(a:Int)+(s:Int)<(n:Int):=by omega
        go_wp2_with fail;go_roundw
        case rel =>
         obtain⟨-,k2,k3⟩:=HM.out.last0 (by omega) han (by omega);exact⟨2*s,dk,by go_num,by omega,by omega,HK,Lib.hid k2,Lib.hid k3⟩
        case measure=>first|(simp[intOf];done)|(simp[intOf];omega)
    ·have hsI:¬(s:Int)<(n:Int):=by omega
     go_wp2_with fail;go_end0;refine⟨rfl,?_⟩;rw[←c4k c7p hdz HR.out.sz HS.out HB.out (by omega)];exact HR.out
theorem b8l (base:Nat)(v:Value)(l:List Pc)(w:World)(hl:l.length≤1000)(hrow:w.ownsRow base 66 7 v l.length (l.flatMap plE.enc)) :
 Calls prog 102 #[v,.func (.func 103) #[] #[]] w fun e w'=>e= .returned (.tuple #[])∧w'.ownsRow base 66 7 v l.length ((a1d l).flatMap plE.enc)∧w.grownBy w' v.ownBlock:=by
 rcases hrow.2 with ⟨rfl,h0⟩|⟨g,cap,cur,rfl,hb,hg,h1,h2,h3,h4⟩
 ·obtain rfl:=List.eq_nil_of_length_eq_zero h0
  exact b6e base _ [] w (by simp) hrow
 ·obtain⟨hS,hb0⟩:=b2r hrow
  have c1:=b8k g cap (cap*7) l.length l.toArray w hS hl;clear hrow hg h3 h4;go_enter func102,ntmps102;go_wp2_with (go_at_call 150;refine c1.mono ?_;rintro e w1⟨rfl,hd⟩);go_end0;exact⟨rfl,b2s hd hb0 h1 h2,hd.gr⟩
end
section
open Go.RowKit Go.Shelf
attribute [local go_sem] Oper.semAt_some
theorem a4q (c:Int)(b:Bool)(hb:(decide (48≤c)&&decide (c≤57))=b)(w:World):Calls prog 119 #[.int .u8 c] w fun e w'=>e= .returned (.bool b)∧w=w':=by
 subst hb;go_enter func119,ntmps119;go_wp2_with fail
 all_goals
  go_ret;exact⟨by first|rfl|(congr 2;simp;omega),rfl⟩
def one:ByteArray:=⟨#[49]⟩
def a3w:Array Value:= #[.string ⟨#[119,105,116,104]⟩,.string ⟨#[116,104,101]⟩,.string ⟨#[97,110,100]⟩,.string ⟨#[102,111,114]⟩,.string ⟨#[105,110,103]⟩,.string ⟨#[111,102]⟩,.string ⟨#[99,104]⟩,.string ⟨#[115,104]⟩,.string ⟨#[116,104]⟩,.string ⟨#[115,116]⟩,.string ⟨#[101,114]⟩]
def wordsL:List ByteArray:=[⟨#[119,105,116,104]⟩,⟨#[116,104,101]⟩,⟨#[97,110,100]⟩,⟨#[102,111,114]⟩,⟨#[105,110,103]⟩,⟨#[111,102]⟩,⟨#[99,104]⟩,⟨#[115,104]⟩,⟨#[116,104]⟩,⟨#[115,116]⟩,⟨#[101,114]⟩]
theorem a5q (w:World):Calls prog 115 #[] w fun e w'=>e= .returned (.slice (some ⟨w.heap.size,0,none⟩) 11 11)∧w'=w.alloc (.cells a3w 9):=by
 go_enter func115,ntmps115;go_wp2_with fail;go_ret;exact⟨rfl,rfl⟩
theorem sizeBuilder:(prog.info? 178).map (·.size)=some 2:=by kernel_rfl
theorem liesBuilder:liesAt prog prog.depth 178 (2 / prog.cellsOf 178) 0 178 1=true:=by kernel_rfl
theorem b2c (b:Nat)(w:World)(h0:w.cell? ⟨b,0,none⟩=some (.pointer (some ⟨b,0,none⟩))) :
 Calls prog 157 #[.pointer (some ⟨b,0,none⟩)] w fun e w'=>e= .returned (.tuple #[])∧w'=w:=by
 obtain⟨j,hj,_⟩:=Option.map_eq_some_iff.1 sizeBuilder;go_enter func157,ntmps157;go_wp2
 rw[Lib.run_neq_ptr_same w _ underlying176 hj];go_wp2
 go_end0;exact⟨rfl,rfl⟩
theorem b0t (b:Nat)(w:World)(h0:w.cell? ⟨b,0,none⟩=some (.pointer none))(hsh:w.shape? b=some (178,2))(hfz:w.frozen? ⟨b,0,none⟩=false) :
 Calls prog 157 #[.pointer (some ⟨b,0,none⟩)] w fun e w'=>e= .returned (.tuple #[])∧w'=w.setCell ⟨b,0,none⟩ (.pointer (some ⟨b,0,none⟩)):=by
 obtain⟨j,hj,hjs⟩:=Option.map_eq_some_iff.1 sizeBuilder;go_enter func157,ntmps157;go_wp2
 rw[Lib.run_to_unsafe w ⟨b,0,none⟩ underlying176 underlying232 hj (by rw[hjs];decide) hsh (Nat.zero_lt_succ 1)];simp only[Result.andThen];rw[Oper.upon_value];go_wp2
 rw[run_callFunc_extern func173 (by kernel_rfl) (by kernel_rfl) (by kernel_rfl) (e:=Extern.AbiNoEscape.same) (by kernel_rfl)];rw[Lib.run_noEscape];simp only[Result.andThen];rw[Oper.upon_value];go_wp2
 rw[Lib.run_from_unsafe w ⟨b,0,none⟩ underlying232 underlying176 hj hsh liesBuilder];simp only[Result.andThen];rw[Oper.upon_value];go_wp2
 go_end0;exact⟨rfl,rfl⟩
theorem infoByte:(prog.info? 5).map (fun i=>(i.zero,i.size,i.bytes))=some (some (.int .u8 0),1,1):=by kernel_rfl
theorem b2d:∃i,prog.info? 5=some i∧i.zero=some (.int .u8 0)∧i.size=1∧i.bytes=1:=by
 obtain⟨i,hi,h⟩:=Option.map_eq_some_iff.1 infoByte;simp only[Prod.mk.injEq] at h;exact⟨i,hi,h.1,h.2.1,h.2.2⟩
theorem b8m (B b:Nat)(bs:List Value)(w:World)(h:Lib.IsBuilderF 178 5 B b bs w) :
 Calls prog 157 #[.pointer (some ⟨b,0,none⟩)] w fun e w'=>e= .returned (.tuple #[])∧(Lib.BuilderAtF 178 5 B b (.pointer (some ⟨b,0,none⟩)) bs w'∧Below B w w'∧Lib.OthersKept 5 (some b) w w'):=by
 rcases h with h|h
 ·refine (b0t b w h.cell0 h.shape h.frozen0).mono ?_
  rintro e w'⟨rfl,rfl⟩;exact⟨rfl,h.used _,(zR B w).setCell (p:=⟨b,0,none⟩) h.1 _,(Lib.OthersKept.refl _ _ w).setCell ⟨b,0,none⟩ rfl _⟩
 ·refine (b2c b w h.cell0).mono ?_
  rintro e w'⟨rfl,rfl⟩;exact⟨rfl,h,zR B _,Lib.OthersKept.refl _ _ _⟩
theorem b8n (B b:Nat)(bs:List Value)(c:Int)(w:World)(h:Lib.IsBuilderF 178 5 B b bs w)(hlen:bs.length+1≤140737488355328)(hBw:B≤w.heap.size) :
 Calls prog 118 #[.pointer (some ⟨b,0,none⟩),.int .u8 c] w fun e w'=>e= .returned .nilIface∧(Lib.BuilderAtF 178 5 B b (.pointer (some ⟨b,0,none⟩)) (bs++[.int .u8 c]) w'∧Below B w w'∧Lib.OthersKept 5 (some b) w w'):=by
 obtain⟨i0,hi,hz0,hz1,hz2⟩:=b2d;go_enter func118,ntmps118;go_wp2_with (go_at_call 157;refine (b8m B b bs _ h).mono ?_);rintro e w1⟨rfl,h1,hb1,hk1⟩;obtain⟨hB,v,hbk,hown,hne⟩:=h1;have c0:w1.cell? ⟨b,0,none⟩=some (.pointer (some ⟨b,0,none⟩)):=by rw[Lib.cell_of_heap hbk];rfl
 have c1:w1.cell? ⟨b,1,none⟩=some v:=by rw[Lib.cell_of_heap hbk];rfl
 go_wp2_with (at_builtin;refine wpList_append_ownF _ rfl _ _ 116 rfl B 5 i0 (.int .u8 0) 1 1 underlying116 hi hz0 hz1 hz2 rfl (by decide) _ _ _ rfl (hown.alloc _) ⟨w1.heap.size,0,none⟩ 1 1 [.int .u8 c] rfl rfl ?c1 ?c2 ?c3 ?c4 ?c5 ?_)
 case c1 =>
  intro j u hj;match j,hj with
  |0,hj=>simp at hj;subst hj;simp[Addr.add]
 case c2=>intro u hu;simp at hu;subst hu;rfl
 case c3=>unfold maxLen;omega
 case c4=>omega
 case c5=>have:=hb1.size;simp;omega
 intro v' w2 hown' hgrow _;have hlt:b<w1.heap.size:=by
  rcases Nat.lt_or_ge b w1.heap.size with h'|h'
  ·exact h'
  ·simp[Array.getElem?_eq_none h'] at hbk
 have hb2:w2.heap[b]? =some (.cells #[.pointer (some ⟨b,0,none⟩),v] 178 (0,0)):=by
  rw[hgrow.block b (by simp;omega) (fun e=>hne e.symm),Lib.alloc_old w1 _ b hlt];exact hbk
 have d0:w2.cell? ⟨b,0,none⟩=some (.pointer (some ⟨b,0,none⟩)):=by rw[Lib.cell_of_heap hb2];rfl
 have d1:w2.cell? ⟨b,1,none⟩=some v:=by rw[Lib.cell_of_heap hb2];rfl
 have f1:w2.frozen? ⟨b,1,none⟩=false:=Lib.frozen_of_heap hb2 1;obtain⟨g,cap,rfl⟩:∃g cap,v'= .slice (some ⟨g,0,none⟩) (bs.length+1) cap:=by
  rcases hown'.2 with ⟨_,h0⟩|⟨g,cap,cur,fz,hv,_⟩
  ·omega
  ·exact⟨g,cap,hv⟩
 go_wp2
 go_ret;refine⟨rfl,?_,?_,((hk1.alloc _).grown hgrow (Lib.ownsRowF_kind (hown.alloc _))).setCell ⟨b,1,none⟩ rfl _⟩
 ·exact Lib.BuilderAtF.put (T:=178) (e:=5) hB hb2 (bs':=bs++[.int .u8 c]) (by simpa using hown') (by decide)
 ·exact ((hb1.alloc (by have:=hb1.size;omega) _).grown hgrow (by have:=hb1.size;simp;omega) (fun k hk=>(hown.lt k hk).1)).setCell (p:=⟨b,1,none⟩) hB _
structure BW (B sb b kb:Nat)(s:ByteArray)(k:Int)(l:List UInt8)(w0 w:World):Prop where
 below:Below B w0 w
 sbk:w.heap[sb]? =some (.cells #[.string s] 9 (0,0))
 kbk:w.heap[kb]? =some (.cells #[.int .i64 k] 3 (0,0))
 bld:Lib.IsBuilderF 178 5 B b (Lib.byteCells l) w
 kB:B≤kb
 neb:kb≠b
 nes:sb≠b
 nek:sb≠kb
theorem a4r {w:World}{k:Nat}{o:Obj}(h:w.heap[k]? =some o):k<w.heap.size:=(Array.getElem?_eq_some_iff.1 h).1
section
variable {B sb b kb:Nat}{s:ByteArray}{k:Int}{l:List UInt8}{w0 w:World}
theorem BW.le (h:BW B sb b kb s k l w0 w):B≤w.heap.size:=Nat.le_of_lt (Nat.lt_of_le_of_lt h.kB (a4r h.kbk))
theorem BW.alloc (h:BW B sb b kb s k l w0 w)(o:Obj):BW B sb b kb s k l w0 (w.alloc o) where
 below:=h.below.alloc h.le o
 sbk:=by rw[Lib.alloc_old w o sb (a4r h.sbk)];exact h.sbk
 kbk:=by rw[Lib.alloc_old w o kb (a4r h.kbk)];exact h.kbk
 bld:=h.bld.alloc o
 kB:=h.kB
 neb:=h.neb
 nes:=h.nes
 nek:=h.nek
theorem BW.drewN (h:BW B sb b kb s k l w0 w)(n:Nat):BW B sb b kb s k l w0 (w.drewN n) where
 below:=below_drewN' h.below n
 sbk:=h.sbk
 kbk:=h.kbk
 bld:=h.bld
 kB:=h.kB
 neb:=h.neb
 nes:=h.nes
 nek:=h.nek
theorem BW.cs (h:BW B sb b kb s k l w0 w):w.cell? ⟨sb,0,none⟩=some (.string s):=by rw[Lib.cell_of_heap h.sbk];rfl
theorem BW.ck (h:BW B sb b kb s k l w0 w):w.cell? ⟨kb,0,none⟩=some (.int .i64 k):=by rw[Lib.cell_of_heap h.kbk];rfl
theorem BW.fk (h:BW B sb b kb s k l w0 w):w.frozen? ⟨kb,0,none⟩=false:=Lib.frozen_of_heap h.kbk 0
theorem BW.byte (h:BW B sb b kb s k l w0 w)(c:UInt8)(hl:l.length+1≤140737488355328) :
 Calls prog 118 #[.pointer (some ⟨b,0,none⟩),.int .u8 c.toNat] w fun e w'=>e= .returned .nilIface∧BW B sb b kb s k (l++[c]) w0 w':=by
 refine (b8n B b (Lib.byteCells l) c.toNat w h.bld (by rw[Lib.byteCells_length];exact hl) h.le).mono ?_;rintro e w'⟨rfl,h1,h2,h3⟩;refine⟨rfl,h.below.trans h2,h3 sb _ h.sbk (fun e=>h.nes (Option.some.inj e)) (fun c fz e=>by cases e),h3 kb _ h.kbk (fun e=>h.neb (Option.some.inj e)) (fun c fz e=>by cases e),?_,h.kB,h.neb,h.nes,h.nek⟩;rw[show Lib.byteCells (l++[c])=Lib.byteCells l++[.int .u8 c.toNat] from by simp[Lib.byteCells]];exact .inr h1
theorem BW.newk (h:BW B sb b kb s k l w0 w)(k':Int):BW B sb b w.heap.size s k' l w0 (w.alloc (.cells #[.int .i64 k'] 3)) where
 below:=h.below.alloc h.le _
 sbk:=by rw[Lib.alloc_old w _ sb (a4r h.sbk)];exact h.sbk
 kbk:=heap_alloc_last w _
 bld:=h.bld.alloc _
 kB:=h.le
 neb:=by
  have hb:b<w.heap.size:=by rcases h.bld with h1|h1 <;> exact h1.lt
  omega
 nes:=h.nes
 nek:=Nat.ne_of_lt (a4r h.sbk)
end
theorem c0h {p:ByteArray→Bool}:∀(zs:List ByteArray)(i:Nat),(∀x∈zs,p x=false)→Lib.idxByFrom (fun _ y=>p y) default zs i = -1
 |[],_,_=>rfl
 |y::r,i,h=>by
  unfold Lib.idxByFrom;rw[h y (List.mem_cons_self ..)];exact c0h r (i+1) (fun x hx=>h x (List.mem_cons_of_mem _ hx))
theorem a0o {P:Program}{ops:Array Oper}{rest:List Oper}{o:Oper}{a:Act}{w:World}{Q:Exit→Act→World→Prop}(hg:o.guard=none)(t:TypeId)(x y:Operand)(ho:o.op= .index t x y)(s:ByteArray)(k:IntKind)(i:Int)(hx:a.eval x= .string s)(hy:a.eval y= .int k i)
 (hu:P.underlying t=some .string) (c:Int) (h0:0≤i) (h1:i<s.size) (hc:((s[i.toNat]'(by omega)).toNat:Int)=c) (h:wpList P ops Q rest (a.put o.dst (.int .u8 c)) w):wpList P ops Q (o::rest) a w:=by
 refine wpList_plain hg fun K hK=> ?_
 unfold Oper.wp execOp;simp only[ho,hx,hy,Sem.run_bind,run_index_string w t s k i hu];rw[dif_pos ⟨h0,h1⟩];simp only[Result.andThen_ok,Sem.run_pure];subst hc;exact hK _ _ h
theorem BW.start (w:World)(s:ByteArray)(p:Growth) :
 BW w.heap.size w.heap.size (w.heap.size+1+p.objs.size) (w.heap.size+1+p.objs.size+1) s 0 [] w
  ((((w.alloc (.cells #[.string s] 9)).growBy p).alloc (.cells #[.pointer none,.slice none 0 0] 178)).alloc (.cells #[.int .i64 0] 3)):=by
 obtain⟨W,hW⟩:∃W,(w.alloc (.cells #[.string s] 9)).growBy p=W:=⟨_,rfl⟩;have hs:W.heap.size=w.heap.size+1+p.objs.size:=by rw[←hW];simp
 have hh:W.heap[w.heap.size]? =some (.cells #[.string s] 9 (0,0)):=by
  rw[←hW,World.heap_growBy _ _ (by simp)];exact heap_alloc_last w _
 have hbl:Below w.heap.size w W:=by rw[←hW];exact zC
 rw[hW,←hs];have hs2:(W.alloc (.cells #[.pointer none,.slice none 0 0] 178)).heap.size=W.heap.size+1:=by simp
 refine⟨(hbl.alloc (by omega) _).alloc (by rw[hs2];omega) _,?_,?_,?_,by omega,by omega,by omega,by omega⟩
 ·rw[Lib.alloc_old _ _ _ (by rw[hs2];omega),Lib.alloc_old _ _ _ (by omega)];exact hh
 ·rw[←hs2];exact heap_alloc_last _ _
 ·refine Lib.IsBuilderF.alloc (.inl ⟨by omega,.slice none 0 0,heap_alloc_last _ _,⟨rfl,.inl ⟨rfl,rfl⟩⟩,by simp[Value.ownBlock]⟩) _
theorem BW.byte' {B sb b kb:Nat}{s:ByteArray}{k:Int}{l:List UInt8}{w0 w:World}(h:BW B sb b kb s k l w0 w)(u:UInt8)(c:Int)(hc:(u.toNat:Int)=c)(hl:l.length+1≤140737488355328) :
 Calls prog 118 #[.pointer (some ⟨b,0,none⟩),.int .u8 c] w fun e w'=>e= .returned .nilIface∧BW B sb b kb s k (l++[u]) w0 w':=by
 subst hc;exact h.byte u hl
def symC:Array Value:= #[.bool true,.bool true,.bool true,.bool true,.bool false,.bool true,.bool true,.bool true,.bool true,.bool false,.bool true,.bool false,.bool true,.bool true,.bool true,.bool false,.bool true,.bool false,.bool true,.bool false,.bool true,.bool false,.bool true,.bool false,.bool true,.bool false,.bool true,.bool true,.bool true,.bool true,.bool true,.bool true,.bool true,.bool true,.bool true,.bool true,.bool false,.bool false,.bool false,.bool true,.bool true,.bool true,.bool false,.bool false,.bool false,.bool false,.bool true,.bool false,.bool false,.bool true,.bool false,.bool false,.bool true,.bool false,.bool true,.bool false,.bool true,.bool false,.bool false,.bool false,.bool true,.bool false,.bool true]
def d4t:Array Value:= #[.bool false,.bool false,.bool false,.bool false,.bool false,.bool false,.bool false,.bool false,.bool false,.bool false,.bool false,.bool false,.bool false,.bool false,.bool false,.bool false,.bool false,.bool false,.bool false,.bool false,.bool false,.bool false,.bool false,.bool false,.bool false,.bool false,.bool false,.bool false,.bool false,.bool false,.bool false,.bool false,.bool false,.bool false,.bool false,.bool false,.bool false,.bool false,.bool false,.bool false,.bool false,.bool false,.bool false,.bool false,.bool false,.bool false,.bool false,.bool false,.bool false,.bool false,.bool false,.bool false,.bool false,.bool false,.bool false,.bool false,.bool false,.bool false,.bool false,.bool false,.bool false,.bool false,.bool false]
theorem b0u {P:Program}{ops:Array Oper}{rest:List Oper}{o:Oper}{a:Act}{w:World}{Q:Exit→Act→World→Prop}(hg:o.guard=none)(t:TypeId)(parts:Array (Nat×Operand))(ho:o.op= .build t parts)(cells:Array Value)
 (hc:P.built t (parts.map fun (i,x)=>(i,a.eval x)).toList=some cells) (h:wpList P ops Q rest (a.put o.dst (.agg cells)) w):wpList P ops Q (o::rest) a w :=
 wpList_build hg t parts ho (by rw[hc];rfl) (by rw[hc];exact h)
theorem b8o (w:World):Calls prog 63 #[] w fun e w'=>e= .returned (.agg symC)∧Below w.heap.size w w':=by
 have hi:(prog.info? 119).map (·.size)=some symC.size:=by kernel_rfl
 have hz:∀w,(zeroValue 119).run prog w= .ok (.agg d4t) w:=fun w=>by kernel_rfl
 go_enter func63,ntmps63;go_wp2_with (first|(refine b0u (by rfl) 119 _ (by rfl) symC (by kernel_rfl) ?_)|(refine wpList_store_row (by rfl) 119 _ _ (by rfl) w.heap.size symC (by rfl) (by rfl) 119 d4t (heap_alloc_last w _) (by kernel_rfl) (by rfl) (by decide +kernel) ?_;rw[World.setRow_alloc_new]));exact bodyPost_ret (results_cell_row (by rfl) _ _ w.heap.size 119 symC (0,0) _ (by rfl) (heap_alloc_last w _) underlying119 (by rfl) hi) rfl ⟨rfl,zC⟩
end
section
open Go.RowKit Go.Shelf Go.Maps
attribute [local go_sem] Oper.semAt_some
def b5o (l:List UInt8):Int:=(l.map fun c=>(c.toNat:Int)).sum
theorem c4o (l:List UInt8)(c:UInt8):b5o (l++[c])=b5o l+c.toNat:=by simp[b5o]
theorem c4p (l:List UInt8):0≤b5o l∧b5o l≤255*l.length:=by
 induction l with
 |nil=>simp[b5o]
 |cons c l ih =>
  have h:b5o (c::l)=c.toNat+b5o l:=by simp[b5o]
  have:=c.toNat_lt;rw[h];simp only[List.length_cons];omega
theorem c1m (s:ByteArray)(k:Nat)(h:k<s.size):s.data.toList.take (k+1)=s.data.toList.take k++[s[k]]:=by
 rw[List.take_succ_eq_append_getElem (by simpa using h)];rfl
theorem b6f (s:ByteArray)(cap k:Nat)(h:k<s.size):(bytesRow s cap)[k]? =some (.int .u8 (s[k]).toNat):=by
 unfold bytesRow;have h2:k<(s.data.map (fun b=>Value.int .u8 b.toNat)).size:=by simpa using h
 rw[Array.getElem?_append_left h2,Array.getElem?_eq_getElem h2];simp;rfl
def b0v (m k:Nat):Bool:=match symC[m*9+k]? with|some (.bool b)=>b|_=>false
def d3s (m:Nat):Array Value:= #[.bool (b0v m 0),.bool (b0v m 1),.bool (b0v m 2),.bool (b0v m 3),.bool (b0v m 4),.bool (b0v m 5),.bool (b0v m 6),.bool (b0v m 7),.bool (b0v m 8)]
theorem c7v (m:Nat)(hm:m<7)(w:World):(Instr.index 119 (.agg symC) (.int .i64 m)).run prog w= .ok (.agg (d3s m)) w:=by
 rcases (show m=0∨m=1∨m=2∨m=3∨m=4∨m=5∨m=6 from by omega) with rfl|rfl|rfl|rfl|rfl|rfl|rfl <;> kernel_rfl
theorem c7w (r:Nat→Bool)(k:Nat)(hk:k<9)(w:World):(Instr.index 118 (.agg #[.bool (r 0),.bool (r 1),.bool (r 2),.bool (r 3),.bool (r 4),.bool (r 5),.bool (r 6),.bool (r 7),.bool (r 8)]) (.int .i64 k)).run prog w= .ok (.bool (r k)) w:=by
 rcases (show k=0∨k=1∨k=2∨k=3∨k=4∨k=5∨k=6∨k=7∨k=8 from by omega) with rfl|rfl|rfl|rfl|rfl|rfl|rfl|rfl|rfl <;> kernel_rfl
theorem c7x (r:Nat→Bool)(k:Nat)(hk:k<6)(w:World):(Instr.index 126 (.agg #[.bool (r 0),.bool (r 1),.bool (r 2),.bool (r 3),.bool (r 4),.bool (r 5)]) (.int .i64 k)).run prog w= .ok (.bool (r k)) w:=by
 rcases (show k=0∨k=1∨k=2∨k=3∨k=4∨k=5 from by omega) with rfl|rfl|rfl|rfl|rfl|rfl <;> kernel_rfl
theorem a2a {P:Program}{ops:Array Oper}{rest:List Oper}{o:Oper}{a:Act}{w:World}{Q:Exit→Act→World→Prop}(hg:o.guard=none)(t:TypeId)(x y:Operand)(ho:o.op= .index t x y)(vx vy v:Value)(hx:a.eval x=vx)(hy:a.eval y=vy)
 (hv:(Instr.index t vx vy).run P w= .ok v w) (h:wpList P ops Q rest (a.put o.dst v) w):wpList P ops Q (o::rest) a w:=by
 refine wpList_plain hg fun K hK=> ?_
 unfold Oper.wp execOp;simp only[ho,hx,hy,Sem.run_bind,hv];simp only[Result.andThen_ok,Sem.run_pure];exact hK _ _ h
def upE (up:Bool)(en:List (a0r×Int))(p:a0r)(id:Int):List (a0r×Int):=if up then b3p en p id else en
def b3u (i j:Int)(k:Nat):a0r:=(i+(k:Int).tmod 3-1,j+(k:Int).tdiv 3-1)
def c4q (i j id:Int)(r:Nat→Bool):Nat→List (a0r×Int)
 |0=>[]
 |k+1=>upE (r k) (c4q i j id r k) (b3u i j k) id
def a9x (i j:Int)(k n:Nat):a0r:=(i+3+3*k+(n:Int).tdiv 3,j+1-(n:Int).tmod 3)
def c6u (i j id:Int)(k:Nat)(d:Nat→Bool)(en:List (a0r×Int)):Nat→List (a0r×Int)
 |0=>en
 |n+1=>upE (d n) (c6u i j id k d en n) (a9x i j k n) id
def b0w (i j id:Int)(D:Nat→Nat→Bool)(en:List (a0r×Int)):Nat→List (a0r×Int)
 |0=>en
 |k+1=>c6u i j id k (D k) (b0w i j id D en k) 6
def a5r (i j id:Int)(r:Nat→Bool)(D:Nat→Nat→Bool)(n:Nat):List (a0r×Int):=b0w i j id D (c4q i j id r 9) n
abbrev shC (s:Sh):Array Value:= #[.int .i64 s.ax,.int .i64 s.ay,.int .i64 s.st,.int .i64 s.w,.int .i64 s.h,.int .i64 s.g]
structure PI (s:Sh)(pl:Array Value)(w:World)(Bs Bp mb n:Nat)(en:List (a0r×Int))(W:World):Prop where
 map:∃k,k≤n∧MapIs W mb k en
 sheet:Blk W Bs (shC s) 28
 place:Blk W Bp pl 66
 below:Below w.heap.size w W
 le:w.heap.size≤mb
 nes:Bs≠mb
 nep:Bp≠mb
section
variable {s:Sh}{pl:Array Value}{w W:World}{Bs Bp mb n:Nat}{en:List (a0r×Int)}
theorem PI.grown {W':World}(h:PI s pl w Bs Bp mb n en W)(hg:W.grownBy W' none):PI s pl w Bs Bp mb n en W':=by
 obtain⟨⟨k,hk,hM⟩,h1,h2,h3,h4,h5,h6⟩:=h;exact⟨⟨k,hk,hM.kept hg (by simp)⟩,h1.kept hg (by simp),h2.kept hg (by simp),h3.grown hg h3.size (fun k e=>by cases e),h4,h5,h6⟩
theorem PI.grow (h:PI s pl w Bs Bp mb n en W)(p:Growth):PI s pl w Bs Bp mb n en (W.growBy p):=h.grown (a1a W p)
theorem PI.up {n':Nat}(h:PI s pl w Bs Bp mb n en W)(hn:n≤n'):PI s pl w Bs Bp mb n' en W:=by
 obtain⟨⟨k,hk,hM⟩,h1,h2,h3,h4,h5,h6⟩:=h;exact⟨⟨k,by omega,hM⟩,h1,h2,h3,h4,h5,h6⟩
theorem PI.put {W':World}{D:DataW Unit}{k:Nat}{p:a0r}{x:Int}(h:PI s pl w Bs Bp mb n en W)(hk:k≤n)(hD:IsMap D)(h1:(en.map (·.1)).Nodup)(h2:∀e∈en,a7d e.1)
 (h3:∀p,a7d p→has D (klS p)=a9p en p∧D.atKey (klS p) (.lit (.int .i64 0))= .lit (.int .i64 ((a6k en p).getD 0))) (hp:a7d p)
 (ho:W'.ownsMap prog 122 (plainElem prog 3) mb (k+1) (D.put (klS p) (.lit (.int .i64 x)))) (hg:W.grownBy W' (some mb)):PI s pl w Bs Bp mb (n+1) (b3p en p x) W' :=
 ⟨⟨k+1,by omega,MapIs.store (W:=W) hD h1 h2 h3 hp ho⟩,h.sheet.kept hg (fun e=>h.nes (Option.some.inj e).symm),h.place.kept hg (fun e=>h.nep (Option.some.inj e).symm),h.below.grown hg h.below.size (fun k e=>by cases e;exact h.le),h.le,h.nes,h.nep⟩
theorem PI.turn {W':World}{q:Nat}(h:PI s pl w Bs Bp mb n en W)(hg:W.grownBy W' (some q))(h1:q≠Bs)(h2:q≠Bp)(h3:q≠mb)(h4:w.heap.size≤q):PI s pl w Bs Bp mb n en W':=by
 obtain⟨⟨k,hk,hM⟩,k1,k2,k3,k4,k5,k6⟩:=h;exact⟨⟨k,hk,hM.kept hg (fun e=>h3 (Option.some.inj e))⟩,k1.kept hg (fun e=>h1 (Option.some.inj e)),k2.kept hg (fun e=>h2 (Option.some.inj e)),k3.grown hg k3.size (fun k e=>by cases e;exact h4),k4,k5,k6⟩
end
theorem b2u (u:Bool)(en:List (a0r×Int))(p:a0r)(id:Int):(upE u en p id).length≤en.length+1:=by
 unfold upE;split
 ·exact b8e _ _ _
 ·omega
theorem b0x (i j id:Int)(r:Nat→Bool):∀k,(c4q i j id r k).length≤k
 |0=>yR _
 |k+1=>Nat.le_trans (b2u _ _ _ _) (by have:=b0x i j id r k;omega)
theorem b0y (i j id:Int)(k:Nat)(d:Nat→Bool)(en:List (a0r×Int)):∀n,(c6u i j id k d en n).length≤en.length+n
 |0=>yR _
 |n+1=>Nat.le_trans (b2u _ _ _ _) (by have:=b0y i j id k d en n;omega)
theorem a9c (i j id:Int)(D:Nat→Nat→Bool)(en:List (a0r×Int)):∀k,(b0w i j id D en k).length≤en.length+6*k
 |0=>yR _
 |k+1=>Nat.le_trans (b0y i j id k (D k) _ 6) (by have:=a9c i j id D en k;omega)
end
end Go.Proofs.YtfocdbjceedagaaGreatDoor
