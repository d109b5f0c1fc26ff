/-
  Parts.
-/
import Derived.Test.YtfocdbjceedagaaGreatDoorXbg
set_option linter.unusedVariables false
set_option linter.unusedSimpArgs false
set_option maxHeartbeats 8000000
set_option maxRecDepth 100000
namespace Go.Proofs.YtfocdbjceedagaaGreatDoor
open Tryz
section
open Go.RowKit Go.Shelf
attribute [local go_sem] Oper.semAt_some
attribute [local go_sem ↓] Go.wp_at_zero Go.wp_at_succ
theorem DY.fin {n₀ D:Nat}{sv:Value}{xs:List Int}{S S':BS}{w W1 W':World}{L:a8t}{T:SlL}(h:DY n₀ D sv xs S W1 S' W' L T)(h0:Ev noB S w S W1)(hD:w.heap.size≤D):Ev noB S w S' W':=h0.wide h.st.ev (fun b hb=>by cases hb;exact hD)
theorem TD.new {S:BS}{w:World}{n₀:Nat}{sv:Value}{xs:List Int}(hT:TW S w)(hlow:∀b,S b→n₀≤b)(hn:n₀≤w.heap.size)(hI:Intz n₀ w sv xs):TD S n₀ w.heap.size sv xs (w.alloc (.cells #[sv,.int .i64 0] 137)):=by
 have hb:Below w.heap.size w (w.alloc (.cells #[sv,.int .i64 0] 137)):=(zR _ _).alloc (yR _) _;exact⟨(Ev.of_below (X:=noB) hT hb).ok,⟨0,Nat.zero_le _,Blk.new _ _ _⟩,hI.ints.below (hb.mono hn),hn,hI.len,hlow,fun h=>Nat.lt_irrefl _ (hT.lt h)⟩
def WsR (n₀ D:Nat)(sv:Value)(xs:List Int)(S:BS)(w:World)(a top g:Nat)(ov kk:Value)(wr:World):Prop :=
 ∃(i:Nat) (S':BS) (n:Nat),i≤top∧kk= .int .i64 (i:Nat)∧n≤a+g*i∧DY n₀ D sv xs S w S' wr [] [(149,ov,n)]
theorem c2r (n₀:Nat)(S:BS)(w:World)(hT:TW S w)(hlow:∀b,S b→n₀≤b)(hn0:n₀≤w.heap.size)(sv:Value)(xs:List Int)(hI:Intz n₀ w sv xs) :
 Calls prog 74 #[sv] w fun e w'=>∃S' v,e= .returned v∧(∃n,SL S' w' 149 v n∧n≤20)∧Ev noB S w S' w':=by
 have htd:=TD.new hT hlow hn0 hI;obtain⟨sa,sc,rfl⟩:∃a c,sv= .slice a xs.length c:=by
  obtain⟨⟨a,c,e,-⟩,-⟩:=hI;exact⟨a,c,e⟩
 have hev1:Ev noB S w S (w.alloc (.cells #[.slice sa xs.length sc,.int .i64 0] 137)):=Ev.of_below hT zC;have hDw:w.heap.size≤w.heap.size:=yR _;have fz0:a0k 0:=⟨by decide,by decide⟩;have fz1:a0k 1:=⟨by decide,by decide⟩;have fzm:a0k (-1):=⟨by decide,by decide⟩;go_enter func74,ntmps74;go_wp2_with fail;refine a0g (fun W1 hW1=> ?_);rw[←hW1] at htd hev1;obtain⟨D,hD⟩:∃b,w.heap.size=b:=⟨_,rfl⟩;have hDw':w.heap.size≤D:=by omega
 rw[hD] at htd;rw[hD];obtain⟨sv,hsv⟩:∃v,Value.slice sa xs.length sc=v:=⟨_,rfl⟩;rw[hsv] at htd;rw[hsv];clear hW1 hD hDw hsv hI;have hDw:=hDw';clear hDw';have hd1:=htd.dw.add (SL.nil S W1 149);go_loopw [4,5] (fun ov kk wr=>WsR n₀ D sv xs S W1 0 2 3 ov kk wr) (fun _ kk _=>2-(intOf kk).toNat)
 case atStart=>exact⟨0,S,0,by omega,rfl,by omega,hd1⟩
 case round =>
  clear hd1;obtain⟨j,S1,n1,hj,rfl,hn1,hd⟩:=hrel;by_cases hlt:j<2
  ·have hltI:(j:Int)<2:=by omega
   go_wp2_with fail;go_loopw [4,6] (fun ov kk wr=>WsR n₀ D sv xs S W1 (3*j) 3 1 ov kk wr) (fun _ kk _=>3-(intOf kk).toNat)
   case atStart=>exact⟨0,S1,n1,by omega,rfl,by omega,hd⟩
   case round =>
    clear hd;obtain⟨i,S2,n,hi,rfl,hn,hd⟩:=hrel;by_cases hlti:i<3
    ·have hltiI:(i:Int)<3:=by omega
     go_upto_if 21 with (first
      |(go_at_call 73;(with_reducible refine (hd.call 2 (by omega) (by omega)).mono ?_);rintro e W2⟨q,rfl,q0,q1,hd2⟩)
      |fail)
     clear hd;by_cases hq:q=0
     ·subst hq
      go_wp2_with (first
       |(go_at_call 133;(with_reducible refine (a1y _ _ W2).mono ?_);rintro e W3⟨⟨x1,y1,rfl,fx1,fy1⟩,hb3⟩)
       |(go_at_call 133;(with_reducible refine (a1y _ _ W3).mono ?_);rintro e W5⟨⟨x2,y2,rfl,fx2,fy2⟩,hb5⟩)
       |(go_at_call 132;(with_reducible refine (a6a n₀ D sv xs _ W5 ((hd2.up hb3).up hb5).td _ _ ((hd2.up hb3).up hb5).s0 (by omega) _ _ _ _ _ fx1 fy1 fx2 fy2 (by first|exact fz0|exact fz1|exact fzm)).mono ?_);rintro e W6⟨S6,v6,rfl,hsl6,ht6,he6⟩)
       |fail)
      have hd6:=(((hd2.up hb3).up hb5).then_ ht6 he6).tailT.add hsl6;go_roundw
      case rel=>exact⟨i+1,S6,n+1,by omega,by go_num,by omega,hd6⟩
      case measure=>simp[intOf];omega
     ·have hqb:(q==0)=false:=by simpa using hq
      go_wp2_with fail;go_roundw
      case rel=>exact⟨i+1,S2,n,by omega,by go_num,by omega,hd2⟩
      case measure=>simp[intOf];omega
    ·have hge:¬(i:Int)<3:=by omega
     go_wp2_with fail;go_roundw
     case rel=>exact⟨j+1,S2,n,by omega,by go_num,by omega,hd⟩
     case measure=>simp[intOf];omega
  ·have hge:¬(j:Int)<2:=by omega
   go_wp2_with fail;go_loopw [4,7] (fun ov kk wr=>WsR n₀ D sv xs S W1 6 4 1 ov kk wr) (fun _ kk _=>4-(intOf kk).toNat)
   case atStart=>exact⟨0,S1,n1,by omega,rfl,by omega,hd⟩
   case round =>
    clear hd;obtain⟨i,S2,n,hi,rfl,hn,hd⟩:=hrel;obtain⟨oa,oc,rfl,-⟩:=hd.s0.form;by_cases hlti:i<4
    ·have hltiI:(i:Int)<4:=by omega
     by_cases hlen:n<5
     ·have hlenI:(n:Int)<5:=by omega
      go_upto_if 43 with (first
       |(go_at_call 73;(with_reducible refine (hd.call 2 (by omega) (by omega)).mono ?_);rintro e W2⟨q,rfl,q0,q1,hd2⟩)
       |fail)
      clear hd;by_cases hq:q=0
      ·subst hq
       go_wp2_with (first
        |(go_at_call 133;(with_reducible refine (a1y _ _ W2).mono ?_);rintro e W3⟨⟨x1,y1,rfl,fx1,fy1⟩,hb3⟩)
        |(go_at_call 133;(with_reducible refine (a1y _ _ W3).mono ?_);rintro e W5⟨⟨x2,y2,rfl,fx2,fy2⟩,hb5⟩)
        |(go_at_call 132;(with_reducible refine (a6a n₀ D sv xs _ W5 ((hd2.up hb3).up hb5).td _ _ ((hd2.up hb3).up hb5).s0 (by omega) _ _ _ _ _ fx1 fy1 fx2 fy2 (by first|exact fz0|exact fz1|exact fzm)).mono ?_);rintro e W6⟨S6,v6,rfl,hsl6,ht6,he6⟩)
        |fail)
       have hd6:=(((hd2.up hb3).up hb5).then_ ht6 he6).tailT.add hsl6;go_roundw
       case rel=>exact⟨i+1,S6,n+1,by omega,by go_num,by omega,hd6⟩
       case measure=>simp[intOf];omega
      ·have hqb:(q==0)=false:=by simpa using hq
       go_wp2_with fail;go_roundw
       case rel=>exact⟨i+1,S2,n,by omega,by go_num,by omega,hd2⟩
       case measure=>simp[intOf];omega
     ·have hlenI:¬(n:Int)<5:=by omega
      go_upto_region 16 with fail;go_upto_if 53 with (first
       |(go_at_call 73;(with_reducible refine (hd.call 3 (by omega) (by omega)).mono ?_);rintro e W2⟨q,rfl,q0,q1,hd2⟩)
       |fail)
      by_cases hq:q=0
      ·subst hq
       go_upto_region 18 with (first
        |(go_at_call 133;(with_reducible refine (a1y 0 0 W2).mono ?_);rintro e W3⟨⟨x1,y1,rfl,fx1,fy1⟩,hb3⟩)
        |(go_at_call 73;(with_reducible refine ((hd2.up hb3).call 2 (by omega) (by omega)).mono ?_);rintro e W4⟨r,rfl,r0,r1,hd4⟩)
        |(go_at_call 133;(with_reducible refine (a1y _ 1 W4).mono ?_);rintro e W5⟨⟨x2,y2,rfl,fx2,fy2⟩,hb5⟩)
        |(go_at_call 132;(with_reducible refine (a6a n₀ D sv xs _ W5 (hd4.up hb5).td _ _ (hd4.up hb5).s0 (by omega) _ _ _ _ _ fx1 fy1 fx2 fy2 (by first|exact fz0|exact fz1|exact fzm)).mono ?_);rintro e W6⟨S6,v6,rfl,hsl6,ht6,he6⟩)
        |fail)
       have hd6:=((hd4.up hb5).then_ ht6 he6).tailT.add hsl6;clear hd hd2 hb3 hd4 hb5 ht6 he6 hsl6;go_upto_if 64 with (first
        |(go_at_call 73;(with_reducible refine (hd6.call 4 (by omega) (by omega)).mono ?_);rintro e W7⟨q2,rfl,q20,q21,hd7⟩)
        |fail)
       by_cases hq2:q2=0
       ·subst hq2
        go_wp2_with (first
         |(go_at_call 133;(with_reducible refine (a1y 1 1 W7).mono ?_);rintro e W8⟨⟨x3,y3,rfl,fx3,fy3⟩,hb8⟩)
         |(go_at_call 133;(with_reducible refine (a1y 3 0 W8).mono ?_);rintro e W9⟨⟨x4,y4,rfl,fx4,fy4⟩,hb9⟩)
         |(go_at_call 132;(with_reducible refine (a6a n₀ D sv xs _ W9 ((hd7.up hb8).up hb9).td _ _ ((hd7.up hb8).up hb9).s0 (by omega) _ _ _ _ _ fx3 fy3 fx4 fy4 (by first|exact fz0|exact fz1|exact fzm)).mono ?_);rintro e W10⟨S10,v10,rfl,hsl10,ht10,he10⟩)
         |fail)
        go_ret;exact⟨S10,v10,rfl,⟨_,hsl10,by omega⟩,(((hd7.up hb8).up hb9).then_ ht10 he10).fin hev1 hDw⟩
       ·have hqb2:(q2==0)=false:=by simpa using hq2
        go_wp2_with fail;go_ret;exact⟨_,_,rfl,⟨_,hd7.s0,by omega⟩,hd7.fin hev1 hDw⟩
      ·have hqb:(q==0)=false:=by simpa using hq
       go_upto_region 18 with fail;have hd6:=hd2;clear hd hd2;go_upto_if 64 with (first
        |(go_at_call 73;(with_reducible refine (hd6.call 4 (by omega) (by omega)).mono ?_);rintro e W7⟨q2,rfl,q20,q21,hd7⟩)
        |fail)
       by_cases hq2:q2=0
       ·subst hq2
        go_wp2_with (first
         |(go_at_call 133;(with_reducible refine (a1y 1 1 W7).mono ?_);rintro e W8⟨⟨x3,y3,rfl,fx3,fy3⟩,hb8⟩)
         |(go_at_call 133;(with_reducible refine (a1y 3 0 W8).mono ?_);rintro e W9⟨⟨x4,y4,rfl,fx4,fy4⟩,hb9⟩)
         |(go_at_call 132;(with_reducible refine (a6a n₀ D sv xs _ W9 ((hd7.up hb8).up hb9).td _ _ ((hd7.up hb8).up hb9).s0 (by omega) _ _ _ _ _ fx3 fy3 fx4 fy4 (by first|exact fz0|exact fz1|exact fzm)).mono ?_);rintro e W10⟨S10,v10,rfl,hsl10,ht10,he10⟩)
         |fail)
        go_ret;exact⟨S10,v10,rfl,⟨_,hsl10,by omega⟩,(((hd7.up hb8).up hb9).then_ ht10 he10).fin hev1 hDw⟩
       ·have hqb2:(q2==0)=false:=by simpa using hq2
        go_wp2_with fail;go_ret;exact⟨_,_,rfl,⟨_,hd7.s0,by omega⟩,hd7.fin hev1 hDw⟩
    ·have hge4:¬(i:Int)<4:=by omega
     go_upto_region 16 with fail;go_upto_if 53 with (first
      |(go_at_call 73;(with_reducible refine (hd.call 3 (by omega) (by omega)).mono ?_);rintro e W2⟨q,rfl,q0,q1,hd2⟩)
      |fail)
     by_cases hq:q=0
     ·subst hq
      go_upto_region 18 with (first
       |(go_at_call 133;(with_reducible refine (a1y 0 0 W2).mono ?_);rintro e W3⟨⟨x1,y1,rfl,fx1,fy1⟩,hb3⟩)
       |(go_at_call 73;(with_reducible refine ((hd2.up hb3).call 2 (by omega) (by omega)).mono ?_);rintro e W4⟨r,rfl,r0,r1,hd4⟩)
       |(go_at_call 133;(with_reducible refine (a1y _ 1 W4).mono ?_);rintro e W5⟨⟨x2,y2,rfl,fx2,fy2⟩,hb5⟩)
       |(go_at_call 132;(with_reducible refine (a6a n₀ D sv xs _ W5 (hd4.up hb5).td _ _ (hd4.up hb5).s0 (by omega) _ _ _ _ _ fx1 fy1 fx2 fy2 (by first|exact fz0|exact fz1|exact fzm)).mono ?_);rintro e W6⟨S6,v6,rfl,hsl6,ht6,he6⟩)
       |fail)
      have hd6:=((hd4.up hb5).then_ ht6 he6).tailT.add hsl6;clear hd hd2 hb3 hd4 hb5 ht6 he6 hsl6;go_upto_if 64 with (first
       |(go_at_call 73;(with_reducible refine (hd6.call 4 (by omega) (by omega)).mono ?_);rintro e W7⟨q2,rfl,q20,q21,hd7⟩)
       |fail)
      by_cases hq2:q2=0
      ·subst hq2
       go_wp2_with (first
        |(go_at_call 133;(with_reducible refine (a1y 1 1 W7).mono ?_);rintro e W8⟨⟨x3,y3,rfl,fx3,fy3⟩,hb8⟩)
        |(go_at_call 133;(with_reducible refine (a1y 3 0 W8).mono ?_);rintro e W9⟨⟨x4,y4,rfl,fx4,fy4⟩,hb9⟩)
        |(go_at_call 132;(with_reducible refine (a6a n₀ D sv xs _ W9 ((hd7.up hb8).up hb9).td _ _ ((hd7.up hb8).up hb9).s0 (by omega) _ _ _ _ _ fx3 fy3 fx4 fy4 (by first|exact fz0|exact fz1|exact fzm)).mono ?_);rintro e W10⟨S10,v10,rfl,hsl10,ht10,he10⟩)
        |fail)
       go_ret;exact⟨S10,v10,rfl,⟨_,hsl10,by omega⟩,(((hd7.up hb8).up hb9).then_ ht10 he10).fin hev1 hDw⟩
      ·have hqb2:(q2==0)=false:=by simpa using hq2
       go_wp2_with fail;go_ret;exact⟨_,_,rfl,⟨_,hd7.s0,by omega⟩,hd7.fin hev1 hDw⟩
     ·have hqb:(q==0)=false:=by simpa using hq
      go_upto_region 18 with fail;have hd6:=hd2;clear hd hd2;go_upto_if 64 with (first
       |(go_at_call 73;(with_reducible refine (hd6.call 4 (by omega) (by omega)).mono ?_);rintro e W7⟨q2,rfl,q20,q21,hd7⟩)
       |fail)
      by_cases hq2:q2=0
      ·subst hq2
       go_wp2_with (first
        |(go_at_call 133;(with_reducible refine (a1y 1 1 W7).mono ?_);rintro e W8⟨⟨x3,y3,rfl,fx3,fy3⟩,hb8⟩)
        |(go_at_call 133;(with_reducible refine (a1y 3 0 W8).mono ?_);rintro e W9⟨⟨x4,y4,rfl,fx4,fy4⟩,hb9⟩)
        |(go_at_call 132;(with_reducible refine (a6a n₀ D sv xs _ W9 ((hd7.up hb8).up hb9).td _ _ ((hd7.up hb8).up hb9).s0 (by omega) _ _ _ _ _ fx3 fy3 fx4 fy4 (by first|exact fz0|exact fz1|exact fzm)).mono ?_);rintro e W10⟨S10,v10,rfl,hsl10,ht10,he10⟩)
        |fail)
       go_ret;exact⟨S10,v10,rfl,⟨_,hsl10,by omega⟩,(((hd7.up hb8).up hb9).then_ ht10 he10).fin hev1 hDw⟩
      ·have hqb2:(q2==0)=false:=by simpa using hq2
       go_wp2_with fail;go_ret;exact⟨_,_,rfl,⟨_,hd7.s0,by omega⟩,hd7.fin hev1 hDw⟩
end
section
open Go.RowKit Go.Shelf
attribute [local go_sem] Oper.semAt_some
structure OW (S0:BS)(W0:World)(S:BS)(W:World)(L:a8t)(T:SlL):Prop where
 ev:Ev noB S0 W0 S W
 bx:∀p∈L,Blk W p.1 p.2.1 p.2.2∧¬S p.1∧W0.heap.size≤p.1
 ne:(L.map (·.1)).Nodup
 sl:∀q∈T,SL S W q.1 q.2.1 q.2.2
section
variable {n₀ D:Nat}{sv:Value}{xs:List Int}{S0 S S':BS}{W0 W W':World}{L:a8t}{T:SlL}{B i:Nat}{c c2 c':Array Value}{t t2:TypeId}{p:Nat×Array Value×TypeId}
theorem OW.init (hT:TW S W):OW S W S W [] []:=⟨Ev.refl hT,fun _ h=>by simp at h,by simp,fun _ h=>by simp at h⟩
theorem OW.tw (h:OW S0 W0 S W L T):TW S W:=h.ev.ok
theorem OW.evo (h:OW S0 W0 S W L T)(he:Ev noB S W S' W'):OW S0 W0 S' W' L T :=
 ⟨h.ev.trans he,fun p hp=>by obtain⟨h1,h2,h3⟩:=h.bx p hp;exact⟨he.blk h1 h2 (fun h=>h),he.not h1.lt h2,h3⟩,h.ne,fun q hq=>he.sl (h.sl q hq)⟩
theorem OW.up (h:OW S0 W0 S W L T)(hb:Below W.heap.size W W'):OW S0 W0 S W' L T:=h.evo (Ev.of_below h.tw hb)
theorem OW.fresh (h:OW S0 W0 S W L T)(hb:Below W.heap.size W W')(hB:W.heap.size≤B)(hk:Blk W' B c t):OW S0 W0 S W' ((B,c,t)::L) T:=by
 have h1:=h.up hb;refine⟨h1.ev,fun p hp=> ?_,?_,h1.sl⟩
 ·rcases List.mem_cons.1 hp with rfl|hp
  ·exact⟨hk,fun hs=>by have:=h.tw.lt hs;omega,Nat.le_trans h.ev.size hB⟩
  ·exact h1.bx p hp
 ·rw[List.map_cons,List.nodup_cons]
  refine⟨fun hm=> ?_,h.ne⟩;obtain⟨p,hp,hpe⟩:=List.mem_map.1 hm;have h2:=(h.bx p hp).1.lt;simp only at hpe;omega
theorem OW.box (h:OW S0 W0 S W L T)(c:Array Value)(t:TypeId):OW S0 W0 S (W.alloc (.cells c t)) ((W.heap.size,c,t)::L) T:=h.fresh ((zR _ _).alloc (yR _) _) (yR _) (Blk.new _ _ _)
theorem OW.add (h:OW S0 W0 S W L T){e:TypeId}{v:Value}{n:Nat}(hv:SL S W e v n):OW S0 W0 S W L ((e,v,n)::T):=⟨h.ev,h.bx,h.ne,fun q hq=>by
 rcases List.mem_cons.1 hq with rfl|hq
 ·exact hv
 ·exact h.sl q hq⟩
theorem OW.tail (h:OW S0 W0 S W (p::L) T):OW S0 W0 S W L T:=⟨h.ev,fun q hq=>h.bx q (List.mem_cons_of_mem _ hq),(List.nodup_cons.1 h.ne).2,h.sl⟩
theorem OW.tailT {q:TypeId×Value×Nat}(h:OW S0 W0 S W L (q::T)):OW S0 W0 S W L T:=⟨h.ev,h.bx,h.ne,fun q hq=>h.sl q (List.mem_cons_of_mem _ hq)⟩
theorem OW.swap {q:Nat×Array Value×TypeId}(h:OW S0 W0 S W (p::q::L) T):OW S0 W0 S W (q::p::L) T:=⟨h.ev,fun r hr=>h.bx r (by
 simp only[List.mem_cons] at hr ⊢;rcases hr with h|h|h
 ·exact .inr (.inl h)
 ·exact .inl h
 ·exact .inr (.inr h)),by
  have:=h.ne;simp only[List.map_cons,List.nodup_cons,List.mem_cons,not_or] at this ⊢;exact⟨⟨fun e=>this.1.1 e.symm,this.2.1⟩,this.1.2,this.2.2⟩,h.sl⟩
theorem OW.write (h:OW S0 W0 S W ((B,c,t)::L) T)(hg:W.grownBy W' (some B))(hk:Blk W' B c2 t2):OW S0 W0 S W' ((B,c2,t2)::L) T:=by
 obtain⟨hB1,hB2,hB4⟩:=h.bx _ (List.mem_cons_self ..);have hsame:∀b,b≠B→b<W.heap.size→W'.heap[b]? =W.heap[b]? :=fun b hb hl=>hg.block b hl (fun e=>hb (Option.some.inj e))
 have hev:=h.ev.own hg (fun r e=>by cases e;exact⟨hB2,hB4⟩);have hsh:Shp S W W':=fun b c e hb hc=>⟨c,(hsame b (fun e=>hB2 (by subst e;exact hb)) hc.lt).trans hc,rfl⟩
 refine⟨hev,fun p hp=> ?_,h.ne,fun q hq=>(h.sl q hq).mono (fun _ h=>h) hsh⟩;rcases List.mem_cons.1 hp with rfl|hp'
 ·exact⟨hk,hB2,hB4⟩
 ·obtain⟨k1,k2,k4⟩:=h.bx p (List.mem_cons_of_mem _ hp')
  refine⟨k1.kept hg (fun e=> ?_),k2,k4⟩;have:=h.ne;rw[List.map_cons,List.nodup_cons] at this;exact this.1 (List.mem_map.2 ⟨p,hp',(Option.some.inj e).symm⟩)
theorem OW.set (h:OW S0 W0 S W ((B,c,t)::L) T)(i:Nat)(v:Value)(hc:c.setIfInBounds i v=c'):OW S0 W0 S (W.setCell ⟨B,i,none⟩ v) ((B,c',t)::L) T :=
 h.write (a1g W B i v) (hc▸(h.bx _ (List.mem_cons_self ..)).1.set i v)
theorem OW.put {v:Value}(h:OW S0 W0 S W ((B,c,t)::L) T)(hW:W'=W.setCell ⟨B,i,none⟩ v)(hc:c.setIfInBounds i v=c'):OW S0 W0 S W' ((B,c',t)::L) T:=hW▸h.set i v hc
theorem OW.b0 (h:OW S0 W0 S W ((B,c,t)::L) T):Blk W B c t:=(h.bx _ (List.mem_cons_self ..)).1
theorem OW.b1 (h:OW S0 W0 S W (p::(B,c,t)::L) T):Blk W B c t:=h.tail.b0
theorem OW.s0 {e:TypeId}{v:Value}{n:Nat}(h:OW S0 W0 S W L ((e,v,n)::T)):SL S W e v n:=h.sl _ (List.mem_cons_self ..)
theorem OW.s1 {q:TypeId×Value×Nat}{e:TypeId}{v:Value}{n:Nat}(h:OW S0 W0 S W L (q::(e,v,n)::T)):SL S W e v n:=h.tailT.s0
theorem OW.s2 {q q2:TypeId×Value×Nat}{e:TypeId}{v:Value}{n:Nat}(h:OW S0 W0 S W L (q::q2::(e,v,n)::T)):SL S W e v n:=h.tailT.tailT.s0
theorem OW.low (h:OW noB W0 S W L T):Below W0.heap.size W0 W:=h.ev.low
theorem OW.lows (h:OW noB W0 S W L T)(b:Nat)(hb:S b):W0.heap.size≤b:=by
 rcases h.ev.new b hb with h1|h1
 ·exact h1.elim
 ·exact h1
theorem OW.draw (h:OW S0 W0 S W L T)(hlow:∀b,S b→n₀≤b)(hn:n₀≤W0.heap.size)(hI:Intz n₀ W sv xs):DY n₀ W.heap.size sv xs S0 W0 S (W.alloc (.cells #[sv,.int .i64 0] 137)) L T:=by
 have hb:Below W.heap.size W (W.alloc (.cells #[sv,.int .i64 0] 137)):=(zR _ _).alloc (yR _) _;have h1:=h.up hb;refine⟨⟨TD.new h.tw hlow (Nat.le_trans hn h.ev.size) hI,h1.ev.any,hn⟩,fun p hp=> ?_,h.ne,h1.sl⟩;obtain⟨k1,k2,k3⟩:=h1.bx p hp;exact⟨k1,k2,fun e=>by have:=(h.bx p hp).1.lt;omega,k3⟩
theorem DY.ow (h:DY n₀ D sv xs S0 W0 S W L T)(hT:TW S0 W0)(hD:W0.heap.size≤D):OW S0 W0 S W L T :=
 ⟨h.fin (Ev.refl hT) hD,fun p hp=>by obtain⟨k1,k2,-,k4⟩:=h.bx p hp;exact⟨k1,k2,k4⟩,h.ne,h.sl⟩
end
end
section
open Go.RowKit Go.Shelf
attribute [local go_sem] Oper.semAt_some
attribute [local go_sem ↓] Go.wp_at_zero Go.wp_at_succ
theorem Mat.take {n₀:Nat}{W:World}{a:Option Addr}{cap:Nat}{rows:List (Value×List Int)}(h:Mat n₀ W (.slice a rows.length cap) rows)(m:Nat)(hm:m≤rows.length):Mat n₀ W (.slice a m cap) (rows.take m):=by
 obtain⟨a',cap',e,hc,hr⟩:=h
 cases e;refine⟨a,cap,by rw[List.length_take,Nat.min_eq_left hm],by rw[List.length_take];omega,fun j hj=> ?_⟩;rw[List.length_take] at hj;rw[List.getElem_take];exact hr j (by omega)
def b2j (rows:List (Value×List Int))(k:Nat):Value:=((rows[k]?).map (·.1)).getD (.slice none 0 0)
def d1y (rows:List (Value×List Int))(k:Nat):List Int:=((rows[k]?).map (·.2)).getD []
theorem a8u {n₀:Nat}{w:World}{lv:Value}{rows:List (Value×List Int)}(hM:Mat n₀ w lv rows)(k:Nat):Intz n₀ w (b2j rows k) (d1y rows k):=by
 obtain⟨a,cap,rfl,hc,hrow⟩:=hM;unfold b2j d1y;by_cases h:k<rows.length
 ·obtain⟨b,off,rfl,hb,c0,hi⟩:=hrow k h
  rw[List.getElem?_eq_getElem h];exact hi
 ·rw[List.getElem?_eq_none (by omega)]
  exact Intz.nil _ _
theorem b5a (n₀:Nat)(w:World)(lv:Value)(rows:List (Value×List Int))(hM:Mat n₀ w lv rows)(k:Nat) :
 Calls prog 72 #[lv,.int .i64 (k:Nat)] w fun e w'=>e= .returned (b2j rows k)∧w=w':=by
 obtain⟨a,cap,rfl,hc,hrow⟩:=hM;go_enter func72,ntmps72;by_cases h:k<rows.length
 ·obtain⟨b,off,rfl,hb,c0,hi⟩:=hrow k h
  have hle:¬(rows.length:Int)≤(k:Int):=by omega
  have hlt:(k:Int)<(rows.length:Int):=by omega
  have hv:b2j rows k=rows[k].1:=by unfold b2j;rw[List.getElem?_eq_getElem h];rfl
  rw[hv];obtain⟨row,hrw⟩:∃r,rows[k].1=r:=⟨_,rfl⟩;rw[hrw] at c0;rw[hrw];clear hrow hrw hi hv;go_wp2_with fail;go_ret;exact⟨rfl,rfl⟩
 ·have hle:(rows.length:Int)≤(k:Int):=by omega
  have hv:b2j rows k= .slice none 0 0:=by unfold b2j;rw[List.getElem?_eq_none (by omega)];rfl
  rw[hv];clear hrow hv;go_wp2_with fail;go_ret;exact⟨rfl,rfl⟩
abbrev d3j:Array Value:= #[.slice none 0 0,.slice none 0 0,.slice none 0 0,.slice none 0 0]
end
end Go.Proofs.YtfocdbjceedagaaGreatDoor
