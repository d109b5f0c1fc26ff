/-
  Parts.
-/
import Derived.Test.YtfocdbjceedagaaGreatDoorMah
import Derived.Test.YtfocdbjceedagaaGreatDoorMaq
import Derived.Sort.WalkA
set_option linter.unusedVariables false
set_option linter.unusedSimpArgs false
set_option maxHeartbeats 8000000
set_option maxRecDepth 100000
namespace Go.Proofs.YtfocdbjceedagaaGreatDoor
open Tryz
section
open Go.RowKit Go.Shelf
attribute [local go_sem] Oper.semAt_some
attribute [local go_sem ↓] Go.wp_at_zero Go.wp_at_succ
def d9v (w:World)(e:Ending)(w':World):Prop :=
 ∃S' ev fv wv pv l,e= .returned (.agg #[ev,fv,wv,pv])/\((∃n,SL S' w' 206 ev n/\n<=30)/\(∃n,SL S' w' 140 fv n/\n<=200)/\(∃n,SL S' w' 149 wv n/\n<=20))/\l.length<=6/\PlsOk l/\w'.ownsRow w.heap.size 66 7 pv l.length (l.flatMap plE.enc)/\(∀g,pv.ownBlock=some g->¬S' g)/\Ev noB noB w S' w'
theorem c2f (lv:Value)(rows:List (Value×List Int))(w:World)(hM:Mat w.heap.size w lv rows) :
 Calls prog 30 #[lv] w λe w'=>d9v w e w':=by
 have hM0:=hM;obtain⟨la,lcap,rfl,hlc,-⟩:=hM;obtain⟨m,hm⟩:=zE (min rows.length 3);have hmI:min (rows.length:Int) 3=(m:Nat):=oM;have hm0:0<=(m:Int):=oM;have hmc:(m:Int)<=(lcap:Int):=oM;have hmn:m<=lcap:=oM;have ho:=((OW.init (TW.none w)).box d8f 37).box d8f 37;have hb1:=ho.low;have hM1:=((hM0.below hb1).mono hb1.size).take m oM;simp only[World.size_alloc]at ho;replace hm:=Lib.hid hm;go_enter func30,ntmps30;go_upto_region 2 with fail;refine a0n (λW1 hW1=> ?_);rw[<-hW1]at ho hM1;obtain⟨B2,hB2⟩:=zE w.heap.size;obtain⟨B3,hB3⟩:=zE (w.heap.size+1);rw[hB3,hB2]at ho;rw[hB3,hB2];have hl2:w.heap.size<=B2:=oM;clear hW1 hB2 hB3 hb1;go_upto_region 3 with(first
  |(go_at_call 71;(with_reducible refine(c9i _ _ W1 hM1).mono ?_);rintro e W2⟨S1,ev,fv,rfl,⟨ne,nf,hse,hne,hsf,hnf⟩,hev2⟩;obtain⟨ea,ec,rfl,-⟩:=hse.form;obtain⟨fa,fc,rfl,-⟩:=hsf.form;have ho2:=((ho.evo hev2).add hse).add hsf;obtain⟨z0,z1,z2,z3⟩:=a1v ho2.b0;have zf0:=ho2.b0.frozen 0;have zf1:=ho2.b0.frozen 1))
 refine a0n (λW3 hW3=> ?_);have ho3:OW noB w S1 W3 [(B3,b7p (.slice ea ne ec) (.slice fa nf fc) (.slice none 0 0) (.slice none 0 0),37),(B2,d8f,37)] [(140,.slice fa nf fc,nf),(206,.slice ea ne ec,ne)]:=by
  rw[hW3];exact(ho2.set 0 _ rfl).set 1 _ rfl
 clear ho ho2 hW3 z0 z1 z2 z3 zf0 zf1 hM1 hev2 hse hsf;have hi3:=a9q (hM0.below ho3.low) 3;have hp3:Calls prog 72 #[.slice la rows.length lcap,.int .i64 3] W3 λe w'=>e= .returned (b3v rows 3)/\W3=w':=b6i _ W3 _ rows (hM0.below ho3.low) 3
 obtain⟨v3,hv3⟩:=zE (b3v rows 3);obtain⟨x3,hx3⟩:=zE (d6n rows 3);rw[hv3]at hi3 hp3;rw[hx3]at hi3;obtain⟨sa,sc,rfl⟩:∃a c,v3= .slice a x3.length c:=by
  obtain⟨⟨a,c,e,-⟩,-⟩:=hi3;exact⟨a,c,e⟩
 clear hv3 hx3;have hd:=ho3.draw ho3.lows (yR _) hi3;go_upto_region 4 with(first
  |(go_at_call 72;(with_reducible refine hp3.mono ?_);rintro e W'⟨rfl,rfl⟩))
 refine a0n (λW4 hW4=> ?_);rw[<-hW4]at hd;have hDl:w.heap.size<=W3.heap.size:=ho3.low.size;obtain⟨D,hD⟩:=zE W3.heap.size;obtain⟨sv,hsv⟩:=zE (Value.slice sa x3.length sc);rw[hD,hsv]at hd;rw[hD]at hDl;rw[hD,hsv];clear hp3 hi3 ho3 hW4 hD hsv;go_wp2_with fail;go_loopw [5] (λkk wr=>∃k:Nat,k<=nf/\kk= .int .i64 (k:Nat)/\DY w.heap.size D sv x3 noB w S1 wr [(B3,b7p (.slice ea ne ec) (.slice fa nf fc) (.slice none 0 0) (.slice none 0 0),37),(B2,d8f,37)] [(140,.slice fa nf fc,nf),(206,.slice ea ne ec,ne)]) (λkk _=>nf-(intOf kk).toNat)
 case atStart=>exact⟨0,Nat.zero_le _,rfl,hd⟩
 case round =>
  clear hd;obtain⟨k,hk,rfl,hd⟩:=hrel;by_cases hlt:k<nf
  ·have hltI:(k:Int)<(nf:Int):=oM
   obtain⟨b,off,cap',hab,-,-⟩:=hd.s0.some_ oM;simp only[Value.slice.injEq,true_and]at hab;obtain⟨rfl,rfl⟩:=hab;obtain⟨m0,m1,m2,m3⟩:=a1v hd.b0;go_upto_region 8 with fail;clear m0 m1 m2 m3;have st1:Strs #[.string ⟨#[102,105,101,108,100]⟩,.string ⟨#[119,111,111,100]⟩,.string ⟨#[108,97,107,101]⟩]:=a9p [⟨#[102,105,101,108,100]⟩,⟨#[119,111,111,100]⟩,⟨#[108,97,107,101]⟩] jM;go_upto_region 9 with(first
    |(go_at_call 73;(with_reducible refine((hd.box _ _).call 3 oM oM).mono ?_);rintro e Wb⟨q,rfl,q0,q1,hb⟩;obtain⟨q,rfl⟩:=Int.eq_ofNat_of_zero_le q0;obtain⟨s1,cs1,hs1⟩:=st1.at_ hb.b0 (q:=q) uM;have hdB:=hb.tail;obtain⟨u,cu,-⟩:=SL.cell hdB.tw a1l hdB.s0 hlt 1 .str rfl;obtain⟨hst,zf⟩:=SL.store (X:=noB) hdB.tw a1l hdB.s0 k 1 .str rfl (.string s1) (CT.ok_str hs1)))
   refine a0n (λWC hWC=> ?_);have hdC:=hdB.evo hst;rw[<-hWC]at hdC;clear hd hdB hb hWC zf cs1 st1 cu hst;have st2:Strs #[.string ⟨#[]⟩,.string ⟨#[]⟩,.string ⟨#[]⟩,.string ⟨#[77,111,111,114]⟩,.string ⟨#[72,111,108,109]⟩,.string ⟨#[78,111,114,116,104,32,77,111,111,114]⟩]:=a9p [⟨#[]⟩,⟨#[]⟩,⟨#[]⟩,⟨#[77,111,111,114]⟩,⟨#[72,111,108,109]⟩,⟨#[78,111,114,116,104,32,77,111,111,114]⟩] jM;go_upto_region 10 with(first
    |(go_at_call 73;(with_reducible refine((hdC.box _ _).call 6 oM oM).mono ?_);rintro e Wd⟨q',rfl,q'0,q'1,hb⟩;obtain⟨q',rfl⟩:=Int.eq_ofNat_of_zero_le q'0;obtain⟨s2,cs2,hs2⟩:=st2.at_ hb.b0 (q:=q') uM;have hdD:=hb.tail;obtain⟨u',cu,-⟩:=SL.cell hdD.tw a1l hdD.s0 hlt 2 .str rfl;obtain⟨hst,zf⟩:=SL.store (X:=noB) hdD.tw a1l hdD.s0 k 2 .str rfl (.string s2) (CT.ok_str hs2)))
   refine a0n (λWE hWE=> ?_);have hdE:=hdD.evo hst;rw[<-hWE]at hdE;clear hdC hdD hb hWE zf cs2 st2 cu hst;go_upto_region 11 with(first
    |(go_at_call 73;(with_reducible refine(hdE.call 60 oM oM).mono ?_);rintro e Wf⟨t,rfl,t0,t1,hdF⟩;obtain⟨u2,cu,-⟩:=SL.cell hdF.tw a1l hdF.s0 hlt 3 .int rfl;obtain⟨hst,zf⟩:=SL.store (X:=noB) hdF.tw a1l hdF.s0 k 3 .int rfl (.int .i64 (1+t)) (CT.ok_int ⟨oM,oM⟩)))
   refine a0n (λWG hWG=> ?_);have hdG:=hdF.evo hst;rw[<-hWG]at hdG;clear hdE hdF hWG zf cu hst;go_upto_region 6 with(first
    |(go_at_call 73;(with_reducible refine(hdG.call 4 oM oM).mono ?_);rintro e Wh⟨x,rfl,x0,x1,hdH⟩)
    |(go_at_call 73;(with_reducible refine(hdH.call 2 oM oM).mono ?_);rintro e Wi⟨y,rfl,y0,y1,hdI⟩;obtain⟨u3,cu,-⟩:=SL.cell hdI.tw a1l hdI.s0 hlt 4 .int rfl;obtain⟨-,zf⟩:=SL.store (X:=noB) hdI.tw a1l hdI.s0 k 4 .int rfl (.int .i64 0) (CT.ok_int ⟨jM,jM⟩)))
   refine a0n (λWJ hWJ=> ?_);have hdJ:DY w.heap.size D sv x3 noB w S1 WJ [(B3,b7p (.slice ea ne ec) (.slice (some ⟨b,off,none⟩) nf fc) (.slice none 0 0) (.slice none 0 0),37),(B2,d8f,37)] [(140,.slice (some ⟨b,off,none⟩) nf fc,nf),(206,.slice ea ne ec,ne)]:=by
    rw[hWJ];exact hdI.evo (SL.store (X:=noB) hdI.tw a1l hdI.s0 k 4 .int rfl _ (CT.ok_int zF)).1
   clear hdG hdH hdI hWJ zf cu;go_wp2_with fail;go_roundw
   case rel=>exact⟨k+1,oM,by go_num,hdJ⟩
   case measure=>simp[intOf];omega
  ·have hge:¬(k:Int)<(nf:Int):=oM
   obtain⟨m0,m1,m2,m3⟩:=a1v hd.b0;have ho:=hd.ow (TW.none w) hDl;go_upto_region 12 with fail;clear hd m0 m1 m2 m3 hlt hge;have hi4:=a9q (hM0.below ho.low) 4;have hp4:Calls prog 72 #[.slice la rows.length lcap,.int .i64 4] wr λe w'=>e= .returned (b3v rows 4)/\wr=w':=b6i _ wr _ rows (hM0.below ho.low) 4
   go_upto_region 13 with(first
    |(go_at_call 72;(with_reducible refine hp4.mono ?_);rintro e W'⟨rfl,rfl⟩)
    |(go_at_call 74;(with_reducible refine(c6b _ S1 wr ho.tw ho.lows ho.low.size _ _ hi4).mono ?_);rintro e W5⟨S5,wv,rfl,⟨nw,hsw,hnw⟩,hev5⟩;obtain⟨wa,wc,rfl,-⟩:=hsw.form;have ho5:=(ho.evo hev5).add hsw;obtain⟨z0,z1,z2,z3⟩:=a1v ho5.b0;have zf:=ho5.b0.frozen 2))
   refine a0n (λW6 hW6=> ?_);have ho6:=ho5.put hW6 (c':=b7p (.slice ea ne ec) (.slice fa nf fc) (.slice wa nw wc) (.slice none 0 0)) rfl;clear ho ho5 hev5 hsw hW6 hi4 hp4 z0 z1 z2 z3 zf;have hM6:=hM0.below ho6.low;have hle6:=ho6.low.size;obtain⟨m0,m1,m2,m3⟩:=a1v ho6.b0;first|with_reducible refine a0f 3 zM zM ?_|with_reducible refine a0i 3 zM zM ?_
   simp only[zT];repeat(first|go_big_quiet_step ((go_at_call 72;exact Calls.grow_of_same (b6i w.heap.size _ _ rows (hM6.below ((Go.below_growBy _ _).mono hle6)) 5)))|quiet_step ((go_at_call 72;exact Calls.grow_of_same (b6i w.heap.size _ _ rows (hM6.below ((Go.below_growBy _ _).mono hle6)) 5))))
   refine wpQuiet_nil ?_;intro _ hw_;obtain⟨p,hw_⟩:=hw_;subst hw_;have ho7:=ho6.up (Go.below_growBy W6 p);have hi5:=a9q (hM0.below ho7.low) 5;clear m0 m1 m2 m3 ho6 hM6;go_upto_region 14 with(first
    |(go_at_call 75;(with_reducible refine(b6j w.heap.size S5 _ ho7.tw ho7.lows ho7.low.size _ _ hi5 _ _ ne nf ho7.s2 (Nat.le_trans hne jM) ho7.s1 hnf _ _ _ _ _ _).mono ?_);rintro e W8⟨S8,pv,l,rfl,hl6,hok,hr8,hof,hev8⟩;replace hr8:=b8h hr8 ho7.low.size;obtain⟨pa,pc,rfl,-⟩:=(a0h a4f hr8 oM).form;have ho8:=ho7.evo hev8;obtain⟨z0,z1,z2,z3⟩:=a1v ho8.b0;have zf:=ho8.b0.frozen 3))
   refine a0n (λW9 hW9=> ?_);have hr9:W9.ownsRow w.heap.size 66 7 (.slice pa l.length pc) l.length (l.flatMap plE.enc):=by
    rw[hW9];exact hr8.kept (a0x _ B3 3 _) (.inr (a0o hr8 ho8.b0 jM))
   have ho9:=ho8.put hW9 (c':=b7p (.slice ea ne ec) (.slice fa nf fc) (.slice wa nw wc) (.slice pa l.length pc)) rfl;clear ho7 ho8 hev8 hr8 hW9 hi5 z0 z1 z2 z3 zf;obtain⟨z0,z1,z2,z3⟩:=a1v ho9.b0;obtain⟨y0,y1,y2,y3⟩:=a1v ho9.b1;have f0:=ho9.b1.frozen 0;have f1:=ho9.b1.frozen 1;have f2:=ho9.b1.frozen 2;have f3:=ho9.b1.frozen 3;have hoA:=ho9.swap;have hrA:=hr9.kept (a0x _ B2 0 (.slice ea ne ec)) (.inr (a0o hr9 hoA.b0 jM));have hoB:=hoA.set 0 (.slice ea ne ec) rfl;have hrB:=hrA.kept (a0x _ B2 1 (.slice fa nf fc)) (.inr (a0o hrA hoB.b0 jM));have hoC:=hoB.set 1 (.slice fa nf fc) rfl;have hrC:=hrB.kept (a0x _ B2 2 (.slice wa nw wc)) (.inr (a0o hrB hoC.b0 jM));have hoD:=hoC.set 2 (.slice wa nw wc) rfl;have hrD:=hrC.kept (a0x _ B2 3 (.slice pa l.length pc)) (.inr (a0o hrC hoD.b0 jM));have hoX:=hoD.set 3 (.slice pa l.length pc) (c':=b7p (.slice ea ne ec) (.slice fa nf fc) (.slice wa nw wc) (.slice pa l.length pc)) rfl;clear ho9 hoA hoB hoC hoD hr9 hrA hrB hrC;go_wp2_with fail;exact bodyPost_ret (results_cell_row qM _ _ B2 37 _ (0,0) _ qM hoX.b0 underlying37 qM zM) rfl ⟨S8,_,_,_,_,l,rfl,⟨⟨ne,hoX.s2,hne⟩,⟨nf,hoX.s1,hnf⟩,⟨nw,hoX.s0,hnw⟩⟩,hl6,hok,hrD,hof,hoX.ev⟩
end
section
open Go.RowKit Go.Shelf
section
variable {H:Type}{enc:TypeId×Value->H}{P:Program}{W:World}{base:Nat}{sp:Nat->Bool}{hd:Bool}{t e:TypeId}{v:Value}
theorem c9k {fuel:Nat}{x:DataW H×List MemPlace}(ht:P.underlying t=some (.slice e))(he:P.underlying e=some (.int .i64))(hc:P.cellsOf e=1)
 (h:DataW.trod enc P W base sp hd fuel t [v]=some x):∃xs,Intz W.heap.size W v xs:=by
 rcases Go.ChangeShapes.open_ints ht he hc h with⟨h1,-⟩|⟨a,len,cap,zs,h1,-,h2,h2m,h3,-,h4,h5⟩
 ·obtain rfl:v= .slice none 0 0:=by simpa using h1
  exact⟨[],Intz.nil _ _⟩
 ·obtain rfl:v= .slice (some a) len cap:=by simpa using h1
  have hz:len<=zs.length:=by rw[h3];split <;> omega
  refine⟨zs.take len,⟨some a,cap,by rw[List.length_take,Nat.min_eq_left hz],λj hj=> ?_⟩,?_⟩
  ·have hj':j<len:=by rw[List.length_take]at hj;omega
   obtain⟨b,off,rfl,h6⟩:=Go.ints_at h4 oM;have h7:=h6 j oM;have hg:zs.getD j 0=zs[j]:=by rw[List.getD_eq_getElem?_getD,List.getElem?_eq_getElem oM];rfl
   rw[List.getElem_take];rw[hg]at h7;exact⟨b,off,rfl,World.block_lt_of_cell? _ _ h7,d2h _ (h5 _ (List.getElem_mem _)),h7⟩
  ·rw[List.length_take,Nat.min_eq_left hz]
   unfold maxLen at h2m;show len<=9223372036854775807;omega
theorem d6o {t2:TypeId}(ht2:P.underlying t2=some (.slice t))(hc2:P.cellsOf t=1)(ht:P.underlying t=some (.slice e))(he:P.underlying e=some (.int .i64))(hc:P.cellsOf e=1)(hv:∀cs,v≠.agg cs)
 (h:∃d p,DataW.Trod enc P W base sp hd t2 v d p):∃rows,Mat W.heap.size W v rows/\b6b rows.length:=by
 obtain⟨d,p,fuel,h⟩:=h;have hcs:v.cells.toList=[v]:=by cases v <;> first|rfl|exact absurd rfl (hv _)
 rw[hcs]at h;rcases Go.Deep.open_slice1 ht2 hc2 h with⟨h1,-⟩|⟨a,len,cap,m,n,V,D,Pl,h1,-,h2,h2m,h3,-,h4⟩
 ·obtain rfl:v= .slice none 0 0:=by simpa using h1
  exact⟨[],⟨none,0,rfl,yR _,λj hj=>by simp at hj⟩,Nat.zero_le _⟩
 ·obtain rfl:v= .slice (some a) len cap:=by simpa using h1
  have hm:len<=m:=by rw[h3];split <;> omega
  have each:∀i,i<len->∃r:Value×List Int,W.cell? (a.add i)=some r.1/\Intz W.heap.size W r.1 r.2:=λi hi=>by
   obtain⟨h5,h6⟩:=h4 i oM;obtain⟨xs,hx⟩:=c9k ht he hc h6;exact⟨(V i,xs),h5,hx⟩
  have inh:Inhabited (Value×List Int):=⟨(.bool false,[])⟩;obtain⟨f,hf⟩:=Go.Deep.choose_lt each;refine⟨(List.range len).map f,⟨some a,cap,by simp,by simpa using h2,λj hj=> ?_⟩,?_⟩
  ·have hj':j<len:=by simpa using hj
   obtain⟨c0,hi⟩:=hf j hj';have hspot:a.spot=none:=by
    have d0:=(hf 0 oM).1;simpa[Addr.add]using World.cell?_spot d0
   obtain⟨b,off,spot⟩:=a;simp only at hspot;subst hspot;rw[Go.WideShapes.add_plain]at c0;have hg:((List.range len).map f)[j]=f j:=by simp
   rw[hg];exact⟨b,off,rfl,World.block_lt_of_cell? _ _ c0,c0,hi⟩
  ·rw[List.length_map,List.length_range]
   unfold maxLen at h2m;show len<=9223372036854775807;omega
end
section
variable {P:Program}{W:World}{r:Reach}{base:Nat}{t:TypeId}{v:Value}
end
end
section
open Go.RowKit Go.Shelf
attribute [local go_sem] Oper.semAt_some
theorem a2t (c:Int)(b:Bool)(hb:(decide (48<=c)&&decide (c<=57))=b)(w:World):Calls prog 167 #[.int .u8 c] w λe w'=>e= .returned (.bool b)/\w=w':=by
 by_cases h0:48<=c
 ·by_cases h1:c<=57
  ·have:b=true:=by rw[<-hb];simp[h0,h1]
   exact yia
  ·have:b=false:=by rw[<-hb];simp[h1]
   exact yia
 ·have:b=false:=by rw[<-hb];simp[h0]
  exact yia
theorem a3a (w:World):Calls prog 168 #[] w λe w'=>e= .returned (.slice (some ⟨w.heap.size,0,none⟩) 26 26)/\w'=w.alloc (.cells b7o 3):=by
 go_enter func168,ntmps168;exact yaw
theorem a7r (w:World):Calls prog 147 #[] w λe w'=>e= .returned (.slice (some ⟨w.heap.size,0,none⟩) 11 11)/\w'=w.alloc (.cells a2m 9):=by
 go_enter func147,ntmps147;exact yaw
theorem b9i (s:ByteArray)(hd:d5v s)(hl:s.size<=1000)(w:World):Calls prog 144 #[.string s] w λe w'=>e= .returned (.bool true)/\Below w.heap.size w w':=by
 go_enter func144,ntmps144;go_wp2_with fail;go_loop [3] (λk=>∃n:Nat,n<=s.size/\k= .int .i64 n) (λk=>s.size-(intOf k).toNat)
 case atStart=>exact⟨0,Nat.zero_le _,rfl⟩
 case round =>
  obtain⟨n,hn,rfl⟩:=hrel;by_cases hlt:n<s.size
  ·obtain⟨h0,h1⟩:=hd n hlt
   obtain⟨c,hc⟩:=zE ((s[n]'hlt).toNat);rw[hc]at h0 h1;have k0:¬(c:Int)<32:=oM;have k1:¬(126:Int)<c:=oM;have k2:¬(c:Int)=34:=oM;have hltI:(n:Int)<(s.size:Int):=oM;go_wp2_with (first|(refine a0j qM 9 _ _ qM s .i64 (n:Nat) qM qM underlying9 c oM oM (by rw[<-hc];rfl) ?_)|fail);go_round
   case rel=>exact⟨n+1,oM,by go_num⟩
   case measure=>simp[intOf];omega
  ·exact yed
theorem d6p (t:ByteArray)(h0:0<t.size)(hc:(t[0]'h0).toNat<=57)(x:ByteArray)(hx:x∈wordsL):¬t.extract 0 x.size=x:=by
 intro h;have hz:0<x.size/\∀hh:0<x.size,97<=(x[0]'hh).toNat:=by
  simp only[wordsL,List.mem_cons,List.not_mem_nil,or_false]at hx;rcases hx with rfl|rfl|rfl|rfl|rfl|rfl|rfl|rfl|rfl|rfl|rfl <;> exact⟨jM,jM⟩
 have h2:=hz.2 hz.1;have h3:(x[0]'hz.1)=t[0]'h0:=by
  have h4:∀(y:ByteArray) (hy:y=x) (hh:0<y.size),(y[0]'hh)=x[0]'hz.1:=by intro y hy hh;subst hy;rfl
  have h5:=h4 _ h (by rw[h];exact hz.1);rw[<-h5,ByteArray.getElem_extract]
 rw[h3]at h2;omega
theorem d2w {a b:ByteArray}(h:¬a=b):(a.toList==b.toList)=false:=by
 rw[beq_eq_false_iff_ne,ByteArray.toList_eq,ByteArray.toList_eq];intro e;exact h (ByteArray.ext (Array.toList_inj.1 e))
theorem c4x (n:Nat)(h:n<11):wordsL[n]!∈wordsL/\(wordsL[n]!).size<=4:=by
 match n,h with
 |0,_=>exact⟨by simp[wordsL],jM⟩
 |1,_=>exact⟨by simp[wordsL],jM⟩
 |2,_=>exact⟨by simp[wordsL],jM⟩
 |3,_=>exact⟨by simp[wordsL],jM⟩
 |4,_=>exact⟨by simp[wordsL],jM⟩
 |5,_=>exact⟨by simp[wordsL],jM⟩
 |6,_=>exact⟨by simp[wordsL],jM⟩
 |7,_=>exact⟨by simp[wordsL],jM⟩
 |8,_=>exact⟨by simp[wordsL],jM⟩
 |9,_=>exact⟨by simp[wordsL],jM⟩
 |10,_=>exact⟨by simp[wordsL],jM⟩
theorem b4v (w:World)(j:Nat)(hj:j<11):(w.alloc (.cells a2m 9)).cell? ⟨w.heap.size,j,none⟩=some (Value.string wordsL[j]!):=by
 refine(a2w (heap_alloc_last w _) j).trans ?_;match j,hj with
 |0,_=>rfl
 |1,_=>rfl
 |2,_=>rfl
 |3,_=>rfl
 |4,_=>rfl
 |5,_=>rfl
 |6,_=>rfl
 |7,_=>rfl
 |8,_=>rfl
 |9,_=>rfl
 |10,_=>rfl
theorem b0j (t:ByteArray)(h0:0<t.size)(hc:(t[0]'h0).toNat<=57)(hl:t.size<=1000)(w:World):Calls prog 145 #[.string t] w λe w'=>e= .returned (.int .i64 (-1))/\Below w.heap.size w w':=by
 have hno:=d6p t h0 hc;clear hc;go_enter func145,ntmps145;go_wp2_with (first|(go_at_call 147;refine(a7r _).mono ?_;rintro e w'⟨rfl,rfl⟩)|fail);have hcell:=b4v w;have hb:Below w.heap.size w (w.alloc (.cells a2m 9)):=zC;obtain⟨W,hW⟩:=zE (w.alloc (.cells a2m 9));rw[hW]at hcell hb ⊢;clear hW;obtain⟨B,hB⟩:=zE w.heap.size;rw[hB]at hcell ⊢;replace hB:=Lib.hid hB;go_loopw [4] (λk W=>∃n:Nat,n<=11/\k= .int .i64 n/\(∀j,j<11->W.cell? ⟨B,j,none⟩=some (Value.string wordsL[j]!))/\Below w.heap.size w W) (λk _=>11-(intOf k).toNat)
 case atStart=>exact⟨0,oM,rfl,hcell,hb⟩
 case round =>
  clear hcell hb;obtain⟨n,hn,rfl,hcell,hb⟩:=hrel;have hcH:=Lib.hid hcell;by_cases hlt:n<11
  ·have hc1:=hcell n hlt
   obtain⟨hm,hs4⟩:=c4x n hlt;have hx:=d2w (hno _ hm);obtain⟨x,hxe⟩:=zE (wordsL[n]!);rw[hxe]at hc1 hx hs4;clear hcell hno hm hxe;have hltI:(n:Int)<11:=oM;by_cases hge:x.size<=t.size
   ·exact yfk
   ·exact yfk
  ·obtain rfl:n=11:=oM
   clear hcell;go_wp2_with fail;go_ret;exact⟨rfl,hb⟩
end
section
open Go.RowKit Go.Shelf
attribute [local go_sem] Oper.semAt_some
attribute [local go_sem] l0 l1 l2 l3 l4 l5 l6 l7 l8 l9
theorem b1h (w:World)(cs:Array Value):Blk ((w.alloc (.cells b7o 3)).alloc (.cells cs 3)) (w.heap.size+1) cs 3:=by
 have h:=Blk.new (w.alloc (.cells b7o 3)) cs 3;rw[World.size_alloc]at h;exact h
theorem b9j (s:ByteArray)(h0:0<s.size)(c:Nat)(hc:(s[0]'h0).toNat=c)(c0:48<=c)(c1:c<=57)(hl:s.size<=1000)(w:World) :
 Calls prog 148 #[.string s,.int .i64 0] w λe w'=>∃B,e= .returned (.slice (some ⟨B,0,none⟩) 2 2)/\Below w.heap.size w w'/\Blk w' B #[.int .i64 60,.int .i64 (a8g c:Nat)] 3:=by
 have hlt:(0:Int)<(s.size:Int):=oM;rcases(show c=48\/c=49\/c=50\/c=51\/c=52\/c=53\/c=54\/c=55\/c=56\/c=57 from oM)with rfl|rfl|rfl|rfl|rfl|rfl|rfl|rfl|rfl|rfl <;>
 ·go_enter func148,ntmps148
  go_wp2_with (first
   |(refine a0j qM 9 _ _ qM s .i64 0 qM qM underlying9 _ oM oM (by rw[<-hc];rfl) ?_)
   |(go_at_call 168;refine(a3a _).mono ?_;rintro e w'⟨rfl,rfl⟩)
   |(go_at_call 167;refine(a2t _ true jM _).mono ?_;rintro e w'⟨rfl,rfl⟩))
  go_ret;exact⟨_,rfl,zC,b1h _ _⟩
theorem c2g (s:ByteArray)(n:Nat)(hn0:0<n)(h0:n<s.size)(c:Nat)(hc:(s[n]'h0).toNat=c)(c0:48<=c)(c1:c<=57)(d:Nat)(hd:(s[n-1]'(by omega)).toNat=d)(d0:48<=d)(d1:d<=57)(hl:s.size<=1000)(w:World) :
 Calls prog 148 #[.string s,.int .i64 n] w λe w'=>∃B,e= .returned (.slice (some ⟨B,0,none⟩) 1 1)/\Below w.heap.size w w'/\Blk w' B #[.int .i64 (a8g c:Nat)] 3:=by
 have hlt:(n:Int)<(s.size:Int):=oM;have hp:0<(n:Int):=oM;have hw0:IntKind.i64.wrap ((n:Int)-1)=(n:Int)-1:=a1m oM oM;rcases(show c=48\/c=49\/c=50\/c=51\/c=52\/c=53\/c=54\/c=55\/c=56\/c=57 from oM)with rfl|rfl|rfl|rfl|rfl|rfl|rfl|rfl|rfl|rfl <;>
 ·go_enter func148,ntmps148
  go_wp2_with (first
   |(refine a0j qM 9 _ _ qM s .i64 (n:Nat) qM qM underlying9 _ oM oM (by rw[<-hc];rfl) ?_)
   |(refine a0j qM 9 _ _ qM s .i64 ((n:Int)-1) qM qM underlying9 d oM oM (by rw[<-hd];congr 2;congr 1;omega) ?_)
   |(go_at_call 168;refine(a3a _).mono ?_;rintro e w'⟨rfl,rfl⟩)
   |(go_at_call 167;with_reducible refine(a2t d true uM _).mono ?_;rintro e w'⟨rfl,rfl⟩)
   |(go_at_call 167;refine(a2t _ true jM _).mono ?_;rintro e w'⟨rfl,rfl⟩))
  go_ret;exact⟨_,rfl,zC,b1h _ _⟩
end
section
open Go Go.RowKit Go.Shelf
attribute [local go_sem] Oper.semAt_some
variable{t:ByteArray}{j:Nat}
theorem c2h (s:ByteArray)(hl:s.size<=1000)(w:World):Calls prog 144 #[.string s] w λe w'=>e= .returned (.bool (a5q s))/\Below w.heap.size w w':=by
 go_enter func144,ntmps144;go_wp2_with fail;go_loop [3] (λk=>∃n:Nat,n<=s.size/\k= .int .i64 n/\Hid (∀i (hi:i<n) (hs:i<s.size),okB (s[i]'hs)=true)) (λk=>s.size-(intOf k).toNat)
 case atStart=>exact⟨0,Nat.zero_le _,rfl,Lib.hid λi hi=>absurd hi oM⟩
 case round =>
  obtain⟨n,hn,rfl,hall⟩:=hrel;by_cases hlt:n<s.size
  ·have hltI:(n:Int)<(s.size:Int):=oM
   obtain⟨c,hc⟩:=zE ((s[n]'hlt).toNat);by_cases hbad:okB (s[n]'hlt)=false
   ·have hno:=Lib.hid (b2d n hlt hbad)
    unfold okB at hbad;rw[hc]at hbad;have hbd:c<32\/126<c\/c=34:=by simp at hbad;omega
    clear hall hbad;rcases(show c<32\/(¬c<32/\126<c)\/c=34 from oM)with h0|⟨h0,h1⟩|rfl
    ·have k0:(c:Int)<32:=oM
     exact yfb
    ·have k0:¬(c:Int)<32:=oM
     have k1:(126:Int)<c:=oM;exact yfb
    ·clear hbd
     go_wp2_with (first|(refine a0j qM 9 _ _ qM s .i64 (n:Nat) qM qM underlying9 34 oM oM (by rw[<-hc];rfl) ?_)|fail);go_ret;exact⟨by rw[hno.out];rfl,zC⟩
   ·have hok:okB (s[n]'hlt)=true:=by simpa using hbad
    have hnext:=Lib.hid (show ∀i (hi:i<n+1) (hs:i<s.size),okB (s[i]'hs)=true from λi hi hs=>by
     by_cases h:i=n
     ·subst h;exact hok
     ·exact hall.out i oM hs)
    have hc2:32<=c/\c<=126/\c≠34:=by
     unfold okB at hok;rw[hc]at hok;simpa[and_assoc]using hok
    have k0:¬(c:Int)<32:=oM;have k1:¬(126:Int)<c:=oM;have k2:¬(c:Int)=34:=oM;clear hbad hok hall hc2;go_wp2_with (first|(refine a0j qM 9 _ _ qM s .i64 (n:Nat) qM qM underlying9 c oM oM (by rw[<-hc];rfl) ?_)|fail);go_round
    case rel=>exact⟨n+1,oM,by go_num,hnext⟩
    case measure=>simp[intOf];omega
  ·have hyes:=b8m λi hi=>hall.out i oM hi
   clear hall;go_wp2_with fail;go_ret;exact⟨by first|rfl|(rw[hyes];rfl),zC⟩
def c6d (t:ByteArray):Option Nat:=wordsL.findIdx? λx=>Lib.hasPrefix t.data.toList x.data.toList
theorem c6e {n:Nat}(h:n<11)(hp:Lib.hasPrefix t.data.toList (wordsL[n]!).data.toList=true)(hb:∀j,j<n->Lib.hasPrefix t.data.toList (wordsL[j]!).data.toList=false):c6d t=some n:=by
 refine List.findIdx?_eq_some_iff_getElem.2 ⟨h,?_,λj hj=> ?_⟩
 ·rwa [getElem!_pos wordsL n h]at hp
 ·have:=hb j hj
  rw[getElem!_pos wordsL j (show j<wordsL.length from Nat.lt_trans hj h)]at this;exact λe=>absurd (this.symm.trans e) jM
theorem c6f (hb:∀j,j<11->Lib.hasPrefix t.data.toList (wordsL[j]!).data.toList=false):c6d t=none:=by
 refine List.findIdx?_eq_none_iff.2 λx hx=> ?_
 obtain⟨j,hj,rfl⟩:=List.getElem_of_mem hx;have:=hb j hj;rwa [getElem!_pos wordsL j hj]at this
theorem d2x (s:ByteArray)(k:Nat):c6d (s.extract k s.size)=a6h s k:=by
 unfold c6d a6h;rw[ByteArray.data_extract,Array.toList_extract]
theorem c2i (t:ByteArray)(hl:t.size<=1000)(w:World):Calls prog 145 #[.string t] w λe w'=>e= .returned (.int .i64 (b2b (c6d t)))/\Below w.heap.size w w':=by
 obtain⟨r,hr⟩:=zE (c6d t);rw[hr];replace hr:=Lib.hid hr;go_enter func145,ntmps145;go_wp2_with (first|(go_at_call 147;refine(a7r _).mono ?_;rintro e w'⟨rfl,rfl⟩)|fail);have hcell:=b4v w;have hb:Below w.heap.size w (w.alloc (.cells a2m 9)):=zC;obtain⟨W,hW⟩:=zE (w.alloc (.cells a2m 9));rw[hW]at hcell hb ⊢;clear hW;obtain⟨B,hB⟩:=zE w.heap.size;rw[hB]at hcell ⊢;replace hB:=Lib.hid hB;go_loopw [4] (λk W=>∃n:Nat,n<=11/\k= .int .i64 n/\(∀j,j<11->W.cell? ⟨B,j,none⟩=some (Value.string wordsL[j]!))/\Below w.heap.size w W/\Hid (∀j,j<n->Lib.hasPrefix t.data.toList (wordsL[j]!).data.toList=false)) (λk _=>11-(intOf k).toNat)
 case atStart=>exact⟨0,oM,rfl,hcell,hb,Lib.hid λj hj=>absurd hj oM⟩
 case round =>
  clear hcell hb;obtain⟨n,hn,rfl,hcell,hb,hno⟩:=hrel;have hcH:=Lib.hid hcell;by_cases hlt:n<11
  ·have hc1:=hcell n hlt
   obtain⟨hm,hs4⟩:=c4x n hlt;have hraw:=Lib.hasPrefix_raw t wordsL[n]!;have hyes:=Lib.hid λh:Lib.hasPrefix t.data.toList (wordsL[n]!).data.toList=true=>c6e hlt h hno.out
   have hnext:=Lib.hid λh:Lib.hasPrefix t.data.toList (wordsL[n]!).data.toList=false=>(show ∀j,j<n+1->Lib.hasPrefix t.data.toList (wordsL[j]!).data.toList=false from λj hj=>by
    by_cases e:j=n
    ·subst e;exact h
    ·exact hno.out j oM)
   obtain⟨x,hxe⟩:=zE (wordsL[n]!);rw[hxe]at hc1 hs4 hraw hyes;replace hxe:=Lib.hid hxe;clear hcell hno hm;have hltI:(n:Int)<11:=oM;by_cases hge:x.size<=t.size
   ·rw[decide_eq_true hge,Bool.true_and]at hraw
    obtain⟨q,hx⟩:=zE (((t.extract 0 x.size).toList==x.toList));rw[hx]at hraw
    cases q
    ·exact yds
    ·have hy:=hyes.out hraw.symm
     rw[hr.out]at hy;subst hy;clear hraw hnext hyes hr;go_wp2_with fail;go_quiet (fail)
     go_wp2_with fail;go_ret;exact⟨rfl,a3g hb _⟩
   ·rw[decide_eq_false hge,Bool.false_and]at hraw
    exact yds
  ·obtain rfl:n=11:=oM
   have hy:=c6f hno.out;rw[hr.out]at hy;subst hy;clear hcell hr hno;go_wp2_with fail;go_ret;exact⟨rfl,hb⟩
def d8h (c:Nat):Int:=if c=32 then 0 else if c=44 then 2 else if c=39 then 4 else if c=45 then 36 else if c=46 then 50 else -1
theorem d6q {c:Nat}(h:c<128):d8h c=if 0<=a5b c then((signedB[(a5b c).toNat]!).toNat:Int)else -1:=by
 have:∀c:Fin 128,d8h c.1=if 0<=a5b c.1 then((signedB[(a5b c.1).toNat]!).toNat:Int)else -1:=by decide +kernel
 exact this ⟨c,h⟩
theorem c6g (c:Nat)(w:World):Calls prog 169 #[.int .u8 c] w λe w'=>e= .returned (.int .i64 (d8h c))/\w=w':=by
 obtain⟨r,hr⟩:=zE (d8h c);rw[hr];unfold d8h at hr;rcases(show c=32\/c=44\/c=39\/c=45\/c=46\/(c≠32/\c≠44/\c≠39/\c≠45/\c≠46)from oM)with rfl|rfl|rfl|rfl|rfl|⟨h1,h2,h3,h4,h5⟩
 ·obtain rfl:r=0:=by simpa using hr.symm
  exact ygr
 ·obtain rfl:r=2:=by simpa using hr.symm
  exact ygr
 ·obtain rfl:r=4:=by simpa using hr.symm
  exact ygr
 ·obtain rfl:r=36:=by simpa using hr.symm
  exact ygr
 ·obtain rfl:r=50:=by simpa using hr.symm
  exact ygr
 ·rw[if_neg h1,if_neg h2,if_neg h3,if_neg h4,if_neg h5]at hr
  subst hr;have k1:((c:Int)==32)=false:=by simp;omega
  have k2:((c:Int)==44)=false:=by simp;omega
  have k3:((c:Int)==39)=false:=by simp;omega
  have k4:((c:Int)==45)=false:=by simp;omega
  have k5:((c:Int)==46)=false:=by simp;omega
  clear h1 h2 h3 h4 h5;exact ygr
theorem b4w (h:j<26):b7o[j]? =some (.int .i64 ((lettersB[j]!).toNat:Int)):=by
 match j,h with
 |0,_=>rfl
 |1,_=>rfl
 |2,_=>rfl
 |3,_=>rfl
 |4,_=>rfl
 |5,_=>rfl
 |6,_=>rfl
 |7,_=>rfl
 |8,_=>rfl
 |9,_=>rfl
 |10,_=>rfl
 |11,_=>rfl
 |12,_=>rfl
 |13,_=>rfl
 |14,_=>rfl
 |15,_=>rfl
 |16,_=>rfl
 |17,_=>rfl
 |18,_=>rfl
 |19,_=>rfl
 |20,_=>rfl
 |21,_=>rfl
 |22,_=>rfl
 |23,_=>rfl
 |24,_=>rfl
 |25,_=>rfl
 |j+26,h=>exact absurd h oM
def c9l :Array Value:= #[.int .i64 62,.int .i64 46,.int .i64 47,.int .i64 63,.int .i64 44,.int .i64 55,.int .i64 33,.int .i64 41,.int .i64 57,.int .i64 12,.int .i64 59]
theorem d2y (h:j<11):c9l[j]? =some (.int .i64 ((a4s[j]!).toNat:Int)):=by
 match j,h with
 |0,_=>rfl
 |1,_=>rfl
 |2,_=>rfl
 |3,_=>rfl
 |4,_=>rfl
 |5,_=>rfl
 |6,_=>rfl
 |7,_=>rfl
 |8,_=>rfl
 |9,_=>rfl
 |10,_=>rfl
 |j+11,h=>exact absurd h oM
theorem c2j (w:World):Calls prog 146 #[] w λe w'=>e= .returned (.slice (some ⟨w.heap.size,0,none⟩) 11 11)/\w'=w.alloc (.cells c9l 3):=by
 go_enter func146,ntmps146;exact yaw
end
section
open Go.Sort
section
variable {α:Type}{lt:α->α->Bool}
def eqv (lt:α->α->Bool)(a b:α):Bool:= !lt a b&& !lt b a
def Asc (lt:α->α->Bool)(l:List α):Prop:=l.Pairwise (λa b=>lt b a=false)
structure Stb (lt:α->α->Bool)(l r:List α):Prop where
 perm:l.Perm r
 same:∀c,l.filter (eqv lt c)=r.filter (eqv lt c)
theorem Stb.refl (l:List α):Stb lt l l:=⟨.refl _,λ_=>rfl⟩
theorem Stb.symm {l r:List α}(h:Stb lt l r):Stb lt r l:=⟨h.perm.symm,λc=>(h.same c).symm⟩
theorem Stb.trans {l r s:List α}(h:Stb lt l r)(g:Stb lt r s):Stb lt l s:=⟨h.perm.trans g.perm,λc=>(h.same c).trans (g.same c)⟩
theorem Stb.append {l r l2 r2:List α}(h:Stb lt l r)(g:Stb lt l2 r2):Stb lt (l++l2) (r++r2) :=
 ⟨h.perm.append g.perm,λc=>by rw[List.filter_append,List.filter_append,h.same,g.same]⟩
theorem Stb.swap (hS:SWO lt){U V:List α}(h:∀u∈U,∀v∈V,lt v u=true):Stb lt (U++V) (V++U):=by
 refine⟨List.perm_append_comm,λc=> ?_⟩;rw[List.filter_append,List.filter_append];by_cases hu:∃u∈U,eqv lt c u=true
 ·obtain⟨u,hu,he⟩:=hu
  have:V.filter (eqv lt c)=[]:=by
   rw[List.filter_eq_nil_iff];intro v hv hc;have h1:=h u hu v hv;simp only[eqv,Bool.and_eq_true,Bool.not_eq_true']at he hc;have:=hS.ntrans v c u hc.2 he.1;rw[h1]at this
   cases this
  rw[this,List.append_nil,List.nil_append]
 ·have:U.filter (eqv lt c)=[]:=by
   rw[List.filter_eq_nil_iff];intro u hu2 hc;exact hu ⟨u,hu2,hc⟩
  rw[this,List.append_nil,List.nil_append]
theorem d2z (hS:SWO lt)(x:α):eqv lt x x=true:=by simp[eqv,hS.irrefl]
theorem Asc.unique (hS:SWO lt):∀ {l r:List α},Asc lt l->Asc lt r->Stb lt l r->l=r
 |[],r,_,_,h=>by
  have:=h.perm.length_eq;exact(List.eq_nil_of_length_eq_zero (by simpa using this.symm)).symm
 |x::l,[],_,_,h=>by
  have:=h.perm.length_eq;simp at this
 |x::l,y::r,hl,hr,h=>by
  have hl':=List.pairwise_cons.1 hl;have hr':=List.pairwise_cons.1 hr;have hxy:lt y x=false:=by
   have hm:y∈x::l:=h.perm.mem_iff.2 vM;rcases List.mem_cons.1 hm with rfl|hm
   ·exact hS.irrefl _
   ·exact hl'.1 y hm
  have hyx:lt x y=false:=by
   have hm:x∈y::r:=h.perm.mem_iff.1 vM;rcases List.mem_cons.1 hm with rfl|hm
   ·exact hS.irrefl _
   ·exact hr'.1 x hm
  have h1:=h.same x;rw[List.filter_cons_of_pos (d2z hS x),List.filter_cons_of_pos (by simp[eqv,hxy,hyx])]at h1;obtain⟨rfl,-⟩:=List.cons.inj h1;rw[Asc.unique hS hl'.2 hr'.2 ⟨(List.perm_cons _).1 h.perm,λc=> ?_⟩];have h2:=h.same c;by_cases hc:eqv lt c x=true
  ·rw[List.filter_cons_of_pos hc,List.filter_cons_of_pos hc]at h2
   exact(List.cons.inj h2).2
  ·rw[List.filter_cons_of_neg hc,List.filter_cons_of_neg hc]at h2
   exact h2
end
section
variable {α:Type} [Inhabited α]{lt:α->α->Bool}
def ext (d:Array α)(a b:Nat):List α:=(List.range' a (b-a)).map (λi=>d[i]!)
theorem a0w (d:Array α){a s b:Nat}(h1:a<=s)(h2:s<=b):ext d a b=ext d a s++ext d s b:=by
 unfold ext;rw[<-List.map_append,show b-a=(s-a)+(b-s) by omega,<-List.range'_append_1,show a+(s-a)=s by omega]
theorem b6l (d:Array α){a b:Nat}(h:b<=a):ext d a b=[]:=by
 unfold ext;rw[show b-a=0 by omega];rfl
theorem a3v (d:Array α)(a:Nat):ext d a (a+1)=[d[a]!]:=by
 unfold ext;rw[show a+1-a=1 by omega];rfl
theorem b2w (d:Array α)(a b:Nat):(ext d a b).length=b-a:=by simp[ext]
theorem a9s {d:Array α}{a b:Nat}{x:α}:x∈ext d a b↔∃i,a<=i/\i<b/\d[i]! =x:=by
 unfold ext;rw[List.mem_map];constructor
 ·rintro⟨i,hi,rfl⟩
  have:=List.mem_range'_1.1 hi;exact⟨i,oM,oM,rfl⟩
 ·rintro⟨i,h1,h2,rfl⟩
  exact⟨i,List.mem_range'_1.2 ⟨h1,oM⟩,rfl⟩
theorem a3b {d d':Array α}{a b:Nat}(h:∀i,a<=i->i<b->d'[i]! =d[i]!):ext d' a b=ext d a b:=by
 unfold ext;refine List.map_congr_left λi hi=> ?_
 have:=List.mem_range'_1.1 hi;exact h i oM oM
theorem a8o {d d':Array α}{a b n:Nat}(h:∀i,i<n->d'[a+i]! =d[b+i]!):ext d' a (a+n)=ext d b (b+n):=by
 unfold ext;rw[show a+n-a=n by omega,show b+n-b=n by omega];apply List.ext_getElem
 ·simp
 ·intro k h1 h2
  simp only[List.length_map,List.length_range']at h1;simp only[List.getElem_map,List.getElem_range',Nat.one_mul];exact h k h1
theorem b6m (d:Array α):ext d 0 d.size=d.toList:=by
 apply List.ext_getElem
 ·simp[ext]
 ·intro k h1 h2
  simp only[ext,List.length_map,List.length_range']at h1;have hk:k<d.size:=oM;simp[ext,getElem!_pos d k hk]
theorem c2k {d:Array α}{a b:Nat}:Asc lt (ext d a b)↔SortedIn lt a b d:=by
 unfold Asc SortedIn;rw[List.pairwise_iff_getElem];constructor
 ·intro h i j hi hij hj
  have:=h (i-a) (j-a) (by rw[b2w];omega) (by rw[b2w];omega) oM;simpa[ext,show a+(i-a)=i by omega,show a+(j-a)=j by omega]using this
 ·intro h i j hi hj hij
  rw[b2w]at hi hj;have:=h (a+i) (a+j) oM oM oM;simpa[ext]using this
def Out (a b:Nat)(d d':Array α):Prop:=d'.size=d.size/\∀i,i<a\/b<=i->d'[i]! =d[i]!
theorem Out.refl (a b:Nat)(d:Array α):Out a b d d:=⟨rfl,λ_ _=>rfl⟩
theorem Out.trans {a b:Nat}{d d' d'':Array α}(h:Out a b d d')(g:Out a b d' d''):Out a b d d'':=⟨g.1.trans h.1,λi hi=>(g.2 i hi).trans (h.2 i hi)⟩
theorem Out.mono {a b a' b':Nat}{d d':Array α}(h:Out a b d d')(ha:a'<=a)(hb:b<=b'):Out a' b' d d':=⟨h.1,λi hi=>h.2 i oM⟩
theorem Out.swp {d:Array α}{a b i j:Nat}(hi:a<=i/\i<b)(hj:a<=j/\j<b):Out a b d (swp d i j) :=
 ⟨size_swp _ _ _,λk hk=>swp_other _ _ _ _ oM oM⟩
structure Srt (lt:α->α->Bool)(a b:Nat)(d d':Array α):Prop where
 out:Out a b d d'
 asc:SortedIn lt a b d'
 stb:Stb lt (ext d a b) (ext d' a b)
theorem Srt.whole {a b a' b':Nat}{d d':Array α}(h:Srt lt a b d d')(ha:a'<=a)(hab:a<=b)(hb:b<=b'):Stb lt (ext d a' b') (ext d' a' b'):=by
 rw[a0w d ha (Nat.le_trans hab hb),a0w d hab hb,a0w d' ha (Nat.le_trans hab hb),a0w d' hab hb];rw[a3b (d:=d) (d':=d') (λi _ hi=>h.out.2 i oM),a3b (d:=d) (d':=d') (a:=b) (b:=b') (λi hi _=>h.out.2 i oM)];exact(Stb.refl _).append (h.stb.append (Stb.refl _))
/-! insertion sort is stable -/
theorem c9m (hS:SWO lt){d:Array α}{j:Nat}(hj:j+1<d.size)(hl:lt d[j+1]! d[j]! =true){a b:Nat}(ha:a<=j)(hb:j+1<b):Stb lt (ext d a b) (ext (swp d (j+1) j) a b):=by
 have h0:∀e:Array α,ext e a b=ext e a j++((ext e j (j+1)++ext e (j+1) (j+1+1))++ext e (j+1+1) b):=λe=>by
  rw[a0w e ha (show j<=b by omega),a0w e (show j<=j+1 by omega) (show j+1<=b by omega),a0w e (show j+1<=j+1+1 by omega) (show j+1+1<=b by omega)];simp only[List.append_assoc]
 rw[h0 d,h0 (swp d (j+1) j)];rw[a3b (d:=d) (d':=swp d (j+1) j) (a:=a) (b:=j) (λi _ hi=>swp_other _ _ _ _ oM oM),a3b (d:=d) (d':=swp d (j+1) j) (a:=j+1+1) (b:=b) (λi hi _=>swp_other _ _ _ _ oM oM)];refine(Stb.refl _).append (Stb.append ?_ (Stb.refl _));rw[a3v,a3v,a3v,a3v,swp_left _ _ _ hj oM,swp_right _ _ _ oM];refine Stb.swap hS ?_;simp only[List.mem_cons,List.not_mem_nil,or_false];rintro u rfl v rfl;exact hl
theorem b0k (hS:SWO lt)(a b:Nat):∀(j:Nat) (d:Array α),j<b->b<=d.size->Stb lt (ext d a b) (ext (insInner lt a j d) a b)
 |0,d,_,_=>Stb.refl _
 |j+1,d,hj,hb=>by
  unfold insInner;split
  ·rename_i h
   simp only[Bool.and_eq_true,decide_eq_true_eq]at h;exact(c9m hS oM h.2 oM hj).trans (b0k hS a b j _ oM (by rw[size_swp];exact hb))
  ·exact Stb.refl _
theorem a8p (lt:α->α->Bool)(a:Nat):∀(j:Nat) (d:Array α),(insInner lt a j d).size=d.size
 |0,d=>rfl
 |j+1,d=>by
  unfold insInner;split
  ·rw[a8p lt a j,size_swp]
  ·rfl
theorem b0l (hS:SWO lt)(a b:Nat):∀(n i:Nat) (d:Array α),b-i=n->b<=d.size->Stb lt (ext d a b) (ext (insOuter lt a b i d) a b)
 |0,i,d,h,_=>by rw[insOuter_stop _ _ _ _ _ oM];exact Stb.refl _
 |n+1,i,d,h,hb=>by
  rw[insOuter_go _ _ _ _ _ oM];exact(b0k hS a b i d oM hb).trans (b0l hS a b n (i+1) _ oM (by rw[a8p];exact hb))
theorem a2j (hS:SWO lt)(d:Array α){a b:Nat}(hab:a<=b)(hb:b<=d.size):Srt lt a b d (insertionSort lt d a b):=by
 obtain⟨⟨h1,h2,-⟩,h3⟩:=insertionSort_holds (lt:=lt) hS d a b hab hb;exact⟨⟨h1,h2⟩,h3,b0l hS a b _ _ d rfl hb⟩
/-! SymMerge -/
theorem c2l {a m b:Nat}{d d':Array α}(ho:Out a b d d')(ham:a<=m)(hmb:m<=b)(h1:SortedIn lt a m d')(h2:SortedIn lt m b d')(h12:∀i j,a<=i->i<m->m<=j->j<b->lt d'[j]! d'[i]! =false)(hs:Stb lt (ext d a b) (ext d' a b)):Srt lt a b d d':=by
 refine⟨ho,λi j hi hij hj=> ?_,hs⟩;by_cases hjm:j<m
 ·exact h1 i j hi hij hjm
 ·by_cases him:i<m
  ·exact h12 i j hi him oM hj
  ·exact h2 i j oM hij hj
structure Cut (lt:α->α->Bool)(a m b s e:Nat)(d:Array α):Prop where
 la:a<=s
 sm:s<=m
 me:m<=e
 eb:e<=b
 less:∀i j,s<=i->i<m->m<=j->j<e->lt d[j]! d[i]! =true
 more:∀i j,a<=i->i<s->e<=j->j<b->lt d[j]! d[i]! =false
structure Rot (s m e:Nat)(d d':Array α):Prop where
 out:Out s e d d'
 eq:ext d' s e=ext d m e++ext d s m
theorem Rot.low {s m e:Nat}{d d':Array α}(h:Rot s m e d d')(h1:s<=m)(h2:m<=e):ext d' s (s+(e-m))=ext d m e/\ext d' (s+(e-m)) e=ext d s m:=by
 have hx:=h.eq;rw[a0w d' (show s<=s+(e-m) by omega) (show s+(e-m)<=e by omega)]at hx;exact List.append_inj hx (by rw[b2w,b2w];omega)
theorem Rot.idx {s m e:Nat}{d d':Array α}(h:Rot s m e d d')(h1:s<=m)(h2:m<=e):(∀i,i<e-m->d'[s+i]! =d[m+i]!)/\(∀i,i<m-s->d'[s+(e-m)+i]! =d[s+i]!):=by
 obtain⟨g1,g2⟩:=h.low h1 h2;constructor
 ·intro i hi
  have:=congrArg (λl=>l[i]?) g1;simpa[ext,hi,show i<s+(e-m)-s by omega]using this
 ·intro i hi
  have:=congrArg (λl=>l[i]?) g2;simpa[ext,hi,show i<e-(s+(e-m)) by omega]using this
theorem Rot.none {s m e:Nat}{d:Array α}(h:s=m\/m=e)(h1:s<=m)(h2:m<=e):Rot s m e d d:=by
 refine⟨.refl _ _ _,?_⟩;rcases h with rfl|rfl
 ·rw[b6l d (yR s),List.append_nil]
 ·rw[b6l d (yR m),List.nil_append]
theorem Cut.step (hS:SWO lt){a m b s e:Nat}{d d1 d2 d3:Array α}(hc:Cut lt a m b s e d)(hL:SortedIn lt a m d)(hR:SortedIn lt m b d)(hr:Rot s m e d d1) :
 (SortedIn lt a s d1/\SortedIn lt s (s+(e-m)) d1/\SortedIn lt (s+(e-m)) e d1/\SortedIn lt e b d1) /\
 (Srt lt a (s+(e-m)) d1 d2->Srt lt (s+(e-m)) b d2 d3->Srt lt a b d d3):=by
 obtain⟨has,hsm,hme,heb,hless,hmore⟩:=hc;obtain⟨i1,i2⟩:=hr.idx hsm hme;have o1:=hr.out.2;have j1:∀i,s<=i->i<s+(e-m)->d1[i]! =d[i-s+m]! :=λi h1 h2=>by
  have:=i1 (i-s) oM;rw[show s+(i-s)=i by omega]at this;rw[this,Nat.add_comm]
 have j2:∀i,s+(e-m)<=i->i<e->d1[i]! =d[i-(e-m)]! :=λi h1 h2=>by
  have:=i2 (i-(s+(e-m))) oM;rw[show s+(e-m)+(i-(s+(e-m)))=i by omega]at this;rw[this,show s+(i-(s+(e-m)))=i-(e-m) by omega]
 refine⟨⟨?_,?_,?_,?_⟩,?_⟩
 ·intro i j hi hij hj
  rw[o1 i oM,o1 j oM];exact hL i j hi hij oM
 ·intro i j hi hij hj
  rw[j1 i hi oM,j1 j oM hj];exact hR _ _ oM oM oM
 ·intro i j hi hij hj
  rw[j2 i hi oM,j2 j oM hj];exact hL _ _ oM oM oM
 ·intro i j hi hij hj
  rw[o1 i oM,o1 j oM];exact hR i j oM hij hj
 ·intro h2 h3
  have ho:Out a b d d3:=(hr.out.mono has heb).trans ((h2.out.mono (yR _) oM).trans (h3.out.mono oM (yR _)));have hst:Stb lt (ext d a b) (ext d1 a b):=by
   have h0:∀x:Array α,ext x a b=ext x a s++(ext x s e++ext x e b):=λx=>by
    rw[a0w x has (show s<=b by omega),a0w x (show s<=e by omega) heb]
   rw[h0 d,h0 d1,hr.eq,a0w d hsm hme];rw[a3b (d:=d) (d':=d1) (a:=a) (b:=s) (λi _ hi=>o1 i oM),a3b (d:=d) (d':=d1) (a:=e) (b:=b) (λi hi _=>o1 i oM)];refine(Stb.refl _).append (Stb.append (Stb.swap hS ?_) (Stb.refl _));intro u hu v hv;obtain⟨i,hi1,hi2,rfl⟩:=a9s.1 hu;obtain⟨j,hj1,hj2,rfl⟩:=a9s.1 hv;exact hless i j hi1 hi2 hj1 hj2
  refine c2l (m:=s+(e-m)) ho oM oM ?_ h3.asc ?_ (hst.trans ((h2.whole (yR _) oM oM).trans (h3.whole oM oM (yR _))))
  ·intro i j hi hij hj
   rw[h3.out.2 i oM,h3.out.2 j oM];exact h2.asc i j hi hij hj
  ·intro i j hi him hmj hj
   rw[h3.out.2 i oM];have m2:d2[i]!∈ext d1 a (s+(e-m)):=h2.stb.perm.mem_iff.2 (a9s.2 ⟨i,hi,him,rfl⟩);have m3:d3[j]!∈ext d2 (s+(e-m)) b:=h3.stb.perm.mem_iff.2 (a9s.2 ⟨j,hmj,hj,rfl⟩);obtain⟨i',hi1,hi2,e1⟩:=a9s.1 m2;obtain⟨j',hj1,hj2,e2⟩:=a9s.1 m3;rw[<-e1,<-e2,h2.out.2 j' oM];by_cases c1:i'<s
   ·rw[o1 i' oM]
    by_cases c2:j'<e
    ·rw[j2 j' hj1 c2]
     exact hL _ _ hi1 oM oM
    ·rw[o1 j' oM]
     exact hmore i' j' hi1 c1 oM hj2
   ·rw[j1 i' oM hi2]
    by_cases c2:j'<e
    ·rw[j2 j' hj1 c2]
     have h5:=hless (j'-(e-m)) (i'-s+m) oM oM oM oM
     cases h6:lt d[j'-(e-m)]! d[i'-s+m]! with
     |false=>rfl
     |true=>have:=hS.trans _ _ _ h6 h5;rw[hS.irrefl]at this;cases this
    ·rw[o1 j' oM]
     exact hR _ _ oM oM hj2
theorem d8i {a m b s n:Nat}(hS:SWO lt){d:Array α}(hL:SortedIn lt a m d)(hR:SortedIn lt m b d)(has:a<=s)(hsm:s<=m)(hme:m+s<=n)(heb:n<=b+s)
 (h1:s<m->m+s<n->lt d[n-1-s]! d[s]! =true) (h2:a<s->n<b+s->lt d[n-1-(s-1)]! d[s-1]! =false):Cut lt a m b s (n-s) d:=by
 refine⟨has,hsm,oM,oM,?_,?_⟩
 ·intro i j hi him hmj hj
  have h3:=h1 oM oM
  cases h4:lt d[j]! d[i]! with
  |true=>rfl
  |false =>
   have h5:lt d[n-1-s]! d[j]! =false:=by
    rcases Nat.lt_or_ge j (n-1-s)with h|h
    ·exact hR j _ hmj h oM
    ·rw[show j=n-1-s by omega];exact hS.irrefl _
   have h6:lt d[i]! d[s]! =false:=by
    rcases Nat.lt_or_ge s i with h|h
    ·exact hL s i has h him
    ·rw[show i=s by omega];exact hS.irrefl _
   have h7:=hS.ntrans _ _ _ (hS.ntrans _ _ _ h5 h4) h6;rw[h3]at h7
   cases h7
 ·intro i j hi his hj hjb
  have h3:=h2 oM oM;have h5:lt d[j]! d[n-1-(s-1)]! =false:=by
   rcases Nat.lt_or_ge (n-1-(s-1)) j with h|h
   ·exact hR _ j oM h hjb
   ·rw[show n-1-(s-1)=j by omega];exact hS.irrefl _
  have h6:lt d[s-1]! d[i]! =false:=by
   rcases Nat.lt_or_ge i (s-1)with h|h
   ·exact hL i _ hi h oM
   ·rw[show i=s-1 by omega];exact hS.irrefl _
  exact hS.ntrans _ _ _ (hS.ntrans _ _ _ h5 h3) h6
theorem a3h {a b:Nat}{d:Array α}(h:SortedIn lt a b d):Srt lt a b d d:=⟨.refl _ _ _,h,.refl _⟩
end
section
variable {α:Type} [Inhabited α]{lt:α->α->Bool}
theorem Rot.right {a k:Nat}{d dk:Array α}(h:Rot a (a+1) (k+1) d dk)(ha:a<=k)(hk:k+1<d.size):Rot a (a+1) (k+1+1) d (swp dk k (k+1)):=by
 obtain⟨i1,i2⟩:=h.idx oM oM;have hs:=h.out.1;have ho:=h.out.2;refine⟨(h.out.mono (yR _) oM).trans (Out.swp ⟨ha,oM⟩ ⟨oM,oM⟩),?_⟩;have hx:dk[k]! =d[a]! :=by
  have:=i2 0 oM;rw[show a+(k+1-(a+1))+0=k by omega]at this;simpa using this
 rw[a0w (swp dk k (k+1)) (show a<=k by omega) (show k<=k+1+1 by omega),a0w (swp dk k (k+1)) (show k<=k+1 by omega) (show k+1<=k+1+1 by omega),a3v,a3v];rw[swp_left _ _ _ oM oM,swp_right _ _ _ oM,hx,ho (k+1) oM];rw[a0w d (show a+1<=k+1 by omega) (show k+1<=k+1+1 by omega),a3v,a3v];rw[a3b (d:=dk) (d':=swp dk k (k+1)) (a:=a) (b:=k) (λi _ hi=>swp_other _ _ _ _ oM oM)];have h2:ext dk a k=ext d (a+1) (k+1):=by
  have h3:=a8o (d:=d) (d':=dk) (a:=a) (b:=a+1) (n:=k-a) (λi hi=>i1 i oM);rw[show a+(k-a)=k by omega,show a+1+(k-a)=k+1 by omega]at h3;exact h3
 rw[h2];simp only[List.append_assoc]
theorem Rot.left {k m:Nat}{d dk:Array α}(h:Rot (k+1) m (m+1) d dk)(hk:k+1<=m)(hm:m<d.size):Rot k m (m+1) d (swp dk (k+1) k):=by
 obtain⟨i1,i2⟩:=h.idx oM oM;have hs:=h.out.1;have ho:=h.out.2;refine⟨(h.out.mono oM (yR _)).trans (Out.swp ⟨oM,oM⟩ ⟨oM,oM⟩),?_⟩;have hx:dk[k+1]! =d[m]! :=by
  have:=i1 0 oM;simpa using this
 rw[a0w (swp dk (k+1) k) (show k<=k+1 by omega) (show k+1<=m+1 by omega),a0w (swp dk (k+1) k) (show k+1<=k+1+1 by omega) (show k+1+1<=m+1 by omega),a3v,a3v];rw[swp_left _ _ _ oM oM,swp_right _ _ _ oM,hx,ho k oM];rw[a0w d (show k<=k+1 by omega) (show k+1<=m by omega),a3v,a3v];rw[a3b (d:=dk) (d':=swp dk (k+1) k) (a:=k+1+1) (b:=m+1) (λi hi _=>swp_other _ _ _ _ oM oM)];have h2:ext dk (k+1+1) (m+1)=ext d (k+1) m:=by
  have h3:=a8o (d:=d) (d':=dk) (a:=k+1+1) (b:=k+1) (n:=m-(k+1)) (λi hi=>by
   have:=i2 i oM;rw[show k+1+(m+1-m)+i=k+1+1+i by omega]at this;exact this)
  rw[show k+1+1+(m-(k+1))=m+1 by omega,show k+1+(m-(k+1))=m by omega]at h3;exact h3
 rw[h2]
structure SwR (a b n:Nat)(d d':Array α):Prop where
 size:d'.size=d.size
 lo:∀i,i<n->d'[a+i]! =d[b+i]!
 hi:∀i,i<n->d'[b+i]! =d[a+i]!
 out:∀i,(i<a\/a+n<=i)->(i<b\/b+n<=i)->d'[i]! =d[i]!
theorem SwR.zero (a b:Nat)(d:Array α):SwR a b 0 d d:=⟨rfl,λi h=>by omega,λi h=>by omega,λ_ _ _=>rfl⟩
theorem SwR.step {a b n:Nat}{d d':Array α}(h:SwR a b n d d')(hab:a+n<b)(hb:b+n<d.size):SwR a b (n+1) d (swp d' (a+n) (b+n)):=by
 have hs:=h.size;refine⟨by rw[size_swp,h.size],λi hi=> ?_,λi hi=> ?_,λi h1 h2=> ?_⟩
 ·by_cases e:i=n
  ·subst e
   rw[swp_left _ _ _ oM oM];exact h.out _ oM oM
  ·rw[swp_other _ _ _ _ oM oM]
   exact h.lo i oM
 ·by_cases e:i=n
  ·subst e
   rw[swp_right _ _ _ oM];exact h.out _ oM oM
  ·rw[swp_other _ _ _ _ oM oM]
   exact h.hi i oM
 ·rw[swp_other _ _ _ _ oM oM]
  exact h.out i oM oM
structure RoI (a m b i j:Nat)(d D:Array α):Prop where
 out:Out a b d D
 i0:a+i<=m
 j0:m+j<=b
 eq:ext D a (m-i)++((ext D m (m+j)++ext D (m-i) m)++ext D (m+j) b)=ext d m b++ext d a m
theorem RoI.start {a m b:Nat}(d:Array α)(h1:a<=m)(h2:m<=b):RoI a m b (m-a) (b-m) d d:=by
 refine⟨.refl _ _ _,oM,oM,?_⟩;rw[show m-(m-a)=a by omega,show m+(b-m)=b by omega,b6l d (yR a),b6l d (yR b)];simp
theorem SwR.outs {a b n x y:Nat}{d d':Array α}(h:SwR a b n d d')(hx:x<=a)(hab:a+n<=b)(hy:b+n<=y):Out x y d d' :=
 ⟨h.size,λi hi=>h.out i oM oM⟩
theorem SwR.ext_lo {a b n:Nat}{d d':Array α}(h:SwR a b n d d'):ext d' a (a+n)=ext d b (b+n):=a8o h.lo
theorem SwR.ext_hi {a b n:Nat}{d d':Array α}(h:SwR a b n d d'):ext d' b (b+n)=ext d a (a+n):=a8o h.hi
theorem SwR.ext_out {a b n x y:Nat}{d d':Array α}(h:SwR a b n d d')(h1:y<=a\/a+n<=x)(h2:y<=b\/b+n<=x):ext d' x y=ext d x y :=
 a3b λi hi hj=>h.out i oM oM
theorem RoI.left {a m b i j:Nat}{d D D':Array α}(h:RoI a m b i j d D)(hij:j<i)(hs:SwR (m-i) m j D D'):RoI a m b (i-j) j d D':=by
 obtain⟨ho,hi,hj,he⟩:=h;refine⟨ho.trans (hs.outs oM oM oM),oM,hj,?_⟩;rw[<-he];have e1:m-(i-j)=m-i+j:=oM;rw[e1,a0w D' (show a<=m-i by omega) (show m-i<=m-i+j by omega),hs.ext_lo,hs.ext_hi];rw[hs.ext_out (x:=a) (y:=m-i) oM oM,hs.ext_out (x:=m-i+j) (y:=m) oM oM,hs.ext_out (x:=m+j) (y:=b) oM oM];rw[a0w D (show m-i<=m-i+j by omega) (show m-i+j<=m by omega)];simp only[List.append_assoc]
theorem RoI.right {a m b i j:Nat}{d D D':Array α}(h:RoI a m b i j d D)(hij:i<j)(hs:SwR (m-i) (m+j-i) i D D'):RoI a m b i (j-i) d D':=by
 obtain⟨ho,hi,hj,he⟩:=h;refine⟨ho.trans (hs.outs oM oM oM),hi,oM,?_⟩;rw[<-he];have e1:m+(j-i)=m+j-i:=oM;have e2:m-i+i=m:=oM;have e3:m+j-i+i=m+j:=oM;have h1:=hs.ext_lo;have h2:=hs.ext_hi;rw[e2,e3]at h1 h2;rw[e1,a0w D' (show m+j-i<=m+j by omega) (show m+j<=b by omega),h1,h2];rw[hs.ext_out (x:=a) (y:=m-i) oM oM,hs.ext_out (x:=m) (y:=m+j-i) oM oM,hs.ext_out (x:=m+j) (y:=b) oM oM];rw[a0w D (show m<=m+j-i by omega) (show m+j-i<=m+j by omega)];simp only[List.append_assoc]
theorem RoI.done {a m b i:Nat}{d D D':Array α}(h:RoI a m b i i d D)(hs:SwR (m-i) m i D D'):Rot a m b d D':=by
 obtain⟨ho,hi,hj,he⟩:=h;refine⟨ho.trans (hs.outs oM oM oM),?_⟩;rw[<-he];have e2:m-i+i=m:=oM;have h1:=hs.ext_lo;have h2:=hs.ext_hi;rw[e2]at h1 h2;rw[a0w D' (show a<=m-i by omega) (show m-i<=b by omega),a0w D' (show m-i<=m by omega) (show m<=b by omega),a0w D' (show m<=m+i by omega) (show m+i<=b by omega),h1,h2];rw[hs.ext_out (x:=a) (y:=m-i) oM oM,hs.ext_out (x:=m+i) (y:=b) oM oM];simp only[List.append_assoc]
theorem d3a (hS:SWO lt){a b i:Nat}{d d1:Array α}(hR:SortedIn lt (a+1) b d)(hi:a+1<=i)(hib:i<=b)
 (h1:i=a+1\/lt d[i-1]! d[a]! =true) (h2:i=b\/lt d[i]! d[a]! =false) (hr:Rot a (a+1) i d d1):Srt lt a b d d1:=by
 have g1:∀j,a+1<=j->j<i->lt d[j]! d[a]! =true:=λj hj hji=>by
  rcases h1 with h|h
  ·omega
  ·cases h4:lt d[j]! d[a]! with
   |true=>rfl
   |false =>
    have h5:lt d[i-1]! d[j]! =false:=by
     rcases Nat.lt_or_ge j (i-1)with h|h
     ·exact hR j _ hj h oM
     ·rw[show j=i-1 by omega];exact hS.irrefl _
    rw[hS.ntrans _ _ _ h5 h4]at h
    cases h
 have g2:∀j,i<=j->j<b->lt d[j]! d[a]! =false:=λj hj hjb=>by
  rcases h2 with h|h
  ·omega
  ·have h5:lt d[j]! d[i]! =false:=by
    rcases Nat.lt_or_ge i j with h|h
    ·exact hR i _ hi h hjb
    ·rw[show j=i by omega];exact hS.irrefl _
   exact hS.ntrans _ _ _ h5 h
 obtain⟨-,i2⟩:=hr.idx oM hi;have hx:d1[a+(i-(a+1))]! =d[a]! :=by
  have:=i2 0 oM;simpa using this
 obtain⟨⟨-,s2,-,s4⟩,hf⟩:=Cut.step hS (a:=a) (m:=a+1) (b:=b) (s:=a) (e:=i) (d:=d) (d1:=d1) (d2:=d1) (d3:=d1)
  ⟨yR _,oM,hi,hib,λk j hk hka hj hji=>by rw[show k=a by omega];exact g1 j hj hji,λk j hk hka _ _=>by omega⟩
  (λp q _ _ _=>by omega) hR hr
 refine hf (a3h s2) (a3h λp q hp hpq hq=> ?_);by_cases hpi:p=a+(i-(a+1))
 ·rw[hpi,hx,hr.out.2 q oM]
  exact g2 q oM hq
 ·exact s4 p q oM hpq hq
theorem c9n (hS:SWO lt){a m i:Nat}{d d1:Array α}(hL:SortedIn lt a m d)(hi:a<=i)(him:i<=m)
 (h1:i=a\/lt d[m]! d[i-1]! =false) (h2:i=m\/lt d[m]! d[i]! =true) (hr:Rot i m (m+1) d d1):Srt lt a (m+1) d d1:=by
 have g1:∀j,a<=j->j<i->lt d[m]! d[j]! =false:=λj hj hji=>by
  rcases h1 with h|h
  ·omega
  ·have h5:lt d[i-1]! d[j]! =false:=by
    rcases Nat.lt_or_ge j (i-1)with h|h
    ·exact hL j _ hj h oM
    ·rw[show j=i-1 by omega];exact hS.irrefl _
   exact hS.ntrans _ _ _ h h5
 have g2:∀j,i<=j->j<m->lt d[m]! d[j]! =true:=λj hj hjm=>by
  rcases h2 with h|h
  ·omega
  ·cases h4:lt d[m]! d[j]! with
   |true=>rfl
   |false =>
    have h5:lt d[j]! d[i]! =false:=by
     rcases Nat.lt_or_ge i j with h|h
     ·exact hL i _ hi h hjm
     ·rw[show j=i by omega];exact hS.irrefl _
    rw[hS.ntrans _ _ _ h4 h5]at h
    cases h
 obtain⟨i1,-⟩:=hr.idx him oM;have hx:d1[i]! =d[m]! :=by
  have:=i1 0 oM;simpa using this
 obtain⟨⟨s1,-,s3,-⟩,hf⟩:=Cut.step hS (a:=a) (m:=m) (b:=m+1) (s:=i) (e:=m+1) (d:=d) (d1:=d1) (d2:=d1) (d3:=d1)
  ⟨hi,him,oM,yR _,λk j hk hka hj hji=>by rw[show j=m by omega];exact g2 k hk hka,λk j _ _ _ _=>by omega⟩
  hL (λp q _ _ _=>by omega) hr
 refine hf (a3h λp q hp hpq hq=> ?_) (a3h s3);by_cases hqi:q=i
 ·rw[hqi,hx,hr.out.2 p oM]
  exact g1 p hp oM
 ·exact s1 p q hp hpq oM
/-! blocks of a size,each sorted -/
def Bks (lt:α->α->Bool)(s n:Nat)(d:Array α):Prop:=∀k,SortedIn lt (k*s) (min (k*s+s) n) d
theorem SortedIn.mono {a b a' b':Nat}{d:Array α}(h:SortedIn lt a b d)(ha:a<=a')(hb:b'<=b):SortedIn lt a' b' d:=λi j hi hij hj=>h i j oM hij oM
theorem SortedIn.outs {a b x y:Nat}{d d':Array α}(h:SortedIn lt a b d)(ho:Out x y d d')(hxy:b<=x\/y<=a):SortedIn lt a b d':=λi j hi hij hj=>by
 rw[ho.2 i oM,ho.2 j oM];exact h i j hi hij hj
theorem Srt.stb0 {a b n:Nat}{d0 d d':Array α}(h:Stb lt (ext d0 0 n) (ext d 0 n))(hs:Srt lt a b d d')(hab:a<=b)(hb:b<=n):Stb lt (ext d0 0 n) (ext d' 0 n) :=
 h.trans (hs.whole (Nat.zero_le _) hab hb)
structure InI (lt:α->α->Bool)(s a n:Nat)(d0 d:Array α):Prop where
 size:d.size=n
 stb:Stb lt (ext d0 0 n) (ext d 0 n)
 mul:∃t,a=t*s
 done:∀k,k*s<a->SortedIn lt (k*s) (k*s+s) d
theorem InI.start {s n:Nat}{d:Array α}(h:d.size=n):InI lt s 0 n d d:=⟨h,.refl _,⟨0,by simp⟩,λk hk=>by omega⟩
theorem a4o {k t s:Nat}(h:k*s<t*s+s)(hne:k≠t):k*s+s<=t*s:=by
 have h1:k<t+1:=by
  rcases Nat.lt_or_ge k (t+1)with h2|h2
  ·exact h2
  ·have:=Nat.mul_le_mul_right s h2
   rw[Nat.succ_mul]at this;omega
 have:=Nat.mul_le_mul_right s (show k+1<=t by omega);rw[Nat.succ_mul]at this;exact this
theorem InI.step {s a n:Nat}{d0 d d':Array α}(h:InI lt s a n d0 d)(hb:a+s<=n)(hs:Srt lt a (a+s) d d'):InI lt s (a+s) n d0 d':=by
 obtain⟨hz,hst,⟨t,rfl⟩,hd⟩:=h;refine⟨hs.out.1.trans hz,Srt.stb0 hst hs oM hb,⟨t+1,by rw[Nat.succ_mul]⟩,λk hk=> ?_⟩;by_cases e:k=t
 ·subst e
  exact hs.asc
 ·have:=a4o hk e
  have hs0:k*s<t*s:=by
   rcases Nat.eq_zero_or_pos s with h0|h0
   ·subst h0;simp at hk
   ·omega
  exact SortedIn.outs (hd k hs0) hs.out (.inl this)
theorem InI.last {s a n:Nat}{d0 d d':Array α}(h:InI lt s a n d0 d)(hs0:0<s)(ha:a<=n)(hb:n<a+s)(hs:Srt lt a n d d'):d'.size=n/\Stb lt (ext d0 0 n) (ext d' 0 n)/\Bks lt s n d':=by
 obtain⟨hz,hst,⟨t,rfl⟩,hd⟩:=h;refine⟨hs.out.1.trans hz,Srt.stb0 hst hs ha (yR _),λk=> ?_⟩;by_cases e:k=t
 ·subst e
  exact SortedIn.mono hs.asc (yR _) oM
 ·by_cases hk:k*s<t*s+s
  ·have:=a4o hk e
   exact SortedIn.mono (SortedIn.outs (hd k oM) hs.out (.inl this)) (yR _) oM
  ·intro i j hi hij hj
   omega
structure MrI (lt:α->α->Bool)(s a n:Nat)(d0 d:Array α):Prop where
 size:d.size=n
 stb:Stb lt (ext d0 0 n) (ext d 0 n)
 mul:∃t,a=t*(2*s)
 done:∀k,k*(2*s)<a->SortedIn lt (k*(2*s)) (k*(2*s)+2*s) d
 rest:∀k,a<=k*s->SortedIn lt (k*s) (min (k*s+s) n) d
theorem MrI.start {s n:Nat}{d0 d:Array α}(h:d.size=n)(hst:Stb lt (ext d0 0 n) (ext d 0 n))(hb:Bks lt s n d):MrI lt s 0 n d0 d:=⟨h,hst,⟨0,by simp⟩,λk hk=>by omega,λk _=>hb k⟩
theorem MrI.two {s a n:Nat}{d0 d:Array α}(h:MrI lt s a n d0 d):SortedIn lt a (min (a+s) n) d/\SortedIn lt (a+s) (min (a+2*s) n) d:=by
 obtain⟨-,-,⟨t,rfl⟩,-,hr⟩:=h;have e1:2*t*s=t*(2*s):=by rw[Nat.mul_comm 2 t,Nat.mul_assoc]
 have e2:(2*t+1)*s=t*(2*s)+s:=by rw[Nat.succ_mul,e1]
 have h1:=hr (2*t) oM;have h2:=hr (2*t+1) oM;rw[e1]at h1;rw[e2]at h2;exact⟨h1,by rw[show t*(2*s)+s+s=t*(2*s)+2*s by omega]at h2;exact h2⟩
theorem MrI.step {s a n:Nat}{d0 d d':Array α}(h:MrI lt s a n d0 d)(hs0:0<s)(hb:a+2*s<=n)(hs:Srt lt a (a+2*s) d d'):MrI lt s (a+2*s) n d0 d':=by
 obtain⟨hz,hst,⟨t,rfl⟩,hd,hr⟩:=h;refine⟨hs.out.1.trans hz,Srt.stb0 hst hs oM hb,⟨t+1,(Nat.succ_mul t (2*s)).symm⟩,λk hk=> ?_,λk hk=>SortedIn.outs (hr k oM) hs.out (.inr hk)⟩;by_cases e:k=t
 ·subst e
  exact hs.asc
 ·have:=a4o hk e
  exact SortedIn.outs (hd k oM) hs.out (.inl this)
theorem MrI.last {s a n:Nat}{d0 d d':Array α}(h:MrI lt s a n d0 d)(hs0:0<s)(ha:a<=n)(hb:n<a+2*s)(hs:Srt lt a n d d'):d'.size=n/\Stb lt (ext d0 0 n) (ext d' 0 n)/\Bks lt (2*s) n d':=by
 obtain⟨hz,hst,⟨t,rfl⟩,hd,hr⟩:=h;refine⟨hs.out.1.trans hz,Srt.stb0 hst hs ha (yR _),λk=> ?_⟩;by_cases e:k=t
 ·subst e
  exact SortedIn.mono hs.asc (yR _) oM
 ·by_cases hk:k*(2*s)<t*(2*s)+2*s
  ·have:=a4o hk e
   exact SortedIn.mono (SortedIn.outs (hd k oM) hs.out (.inl this)) (yR _) oM
  ·intro i j hi hij hj
   omega
theorem MrI.last0 {s a n:Nat}{d0 d:Array α}(h:MrI lt s a n d0 d)(hs0:0<s)(ha:a<=n)(hb:n<=a+s):d.size=n/\Stb lt (ext d0 0 n) (ext d 0 n)/\Bks lt (2*s) n d :=
 h.last hs0 ha oM (a3h (SortedIn.mono h.two.1 (yR _) oM))
theorem c9o (hS:SWO lt){n s:Nat}{d0 d:Array α}(h0:d0.size=n)(hz:d.size=n)(hst:Stb lt (ext d0 0 n) (ext d 0 n))(hb:Bks lt s n d)(hn:n<=s):d=insertionSort lt d0 0 n:=by
 obtain⟨ho,ha,hs⟩:=a2j hS d0 (Nat.zero_le n) oM;have h1:SortedIn lt 0 n d:=by
  have:=hb 0;rw[Nat.zero_mul,show min (0+s) n=n by omega]at this;exact this
 have h2:=Asc.unique hS (c2k.2 h1) (c2k.2 ha) (hst.symm.trans hs);have e1:=b6m d;have e2:=b6m (insertionSort lt d0 0 n);rw[hz]at e1;rw[ho.1,h0]at e2;exact Array.toList_inj.1 (e1.symm.trans (h2.trans e2))
end
end
end Go.Proofs.YtfocdbjceedagaaGreatDoor
