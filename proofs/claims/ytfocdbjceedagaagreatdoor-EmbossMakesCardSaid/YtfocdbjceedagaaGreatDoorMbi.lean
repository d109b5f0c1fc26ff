/-
  Parts.
-/
import Derived.Test.YtfocdbjceedagaaGreatDoorMbh
import Derived.Test.YtfocdbjceedagaaGreatDoorMbj
set_option linter.unusedVariables false
set_option linter.unusedSimpArgs false
set_option maxHeartbeats 16000000
set_option maxRecDepth 100000
namespace Go.Proofs.YtfocdbjceedagaaGreatDoor
open Tryz
section
open Go.RowKit Go.Shelf
attribute [local go_sem] Oper.semAt_some
attribute [local go_sem ↓] Go.wp_at_zero Go.wp_at_succ
theorem c3w (s:Sh)(ps:List a0m)(k k2:Nat)(hk:k<ps.length)(h2:k2<ps.length)(he:min (k+1) (ps.length-1)=k2):a6i s ps k=b3o s ps[k] ps[k2]:=by
 unfold a6i;rw[he,List.getD_eq_getElem?_getD,List.getElem?_eq_getElem hk,List.getD_eq_getElem?_getD,List.getElem?_eq_getElem h2];rfl
theorem e0y {W:World}{B:Nat}{a b c d e f:Int}(h:Blk W B #[.int .i64 a,.int .i64 b,.int .i64 c,.int .i64 d,.int .i64 e,.int .i64 f] 28):W.cell? ⟨B,0,none⟩=some (.int .i64 a)/\W.cell? ⟨B,1,none⟩=some (.int .i64 b)/\W.cell? ⟨B,2,none⟩=some (.int .i64 c)/\W.cell? ⟨B,3,none⟩=some (.int .i64 d)/\W.cell? ⟨B,4,none⟩=some (.int .i64 e)/\W.cell? ⟨B,5,none⟩=some (.int .i64 f) :=
 ⟨h.cell 0,h.cell 1,h.cell 2,h.cell 3,h.cell 4,h.cell 5⟩
theorem d4x (ax ay bx by_:Int)(w:World)(ha:Near5 (ax,ay))(hb:Near5 (bx,by_)) :
 Calls prog 91 #[.agg #[.int .i64 ax,.int .i64 ay],.agg #[.int .i64 bx,.int .i64 by_]] w λe w'=>∃v base,e= .returned v/\w.heap.size<=base/\w'.ownsRow base 26 2 v (a7f (ax,ay) (bx,by_)).length ((a7f (ax,ay) (bx,by_)).flatMap a5u)/\Below w.heap.size w w':=d0t (ax,ay) (bx,by_) w ha hb
theorem d0y {a b:a0m}(ha:Near5 a)(hb:Near5 b):(a7f a b).length<=200001:=by
 obtain⟨h0,h1⟩:=a6z ha hb;unfold a7f;rw[a2s];omega
theorem d0z (s:Sh)(sv:Value)(ws:List Wy)(w:World)(hc:a1g s=0)(hW:Wys w.heap.size w sv ws)(hlen:ws.length<=100)(hpl:∀y∈ws,y.line.length<=100) :
 Calls prog 39 #[shV s,sv] w λe w'=>∃v base,e= .returned v/\w.heap.size<=base/\w'.ownsRow base 54 4 v (a1h 2 (a3r s [] (ws.map Wy.key))).length ((a1h 2 (a3r s [] (ws.map Wy.key))).flatMap a2c)/\Below w.heap.size w w':=by
 have hs:=a4h hc;obtain⟨ax,ay,st,sw,sh,sg⟩:=s;have hcH:=Lib.hid hc;clear hc;have hd0:a1h 2 []=[]:=by simp[a1h,a2o]
 obtain⟨wa,wcap,rfl,hrows⟩:=hW;go_enter func39,ntmps39;go_upto_region 3 with(go_at_call 89;refine(a8w hcH.out _).mono ?_;rintro e w'⟨rfl,hb_⟩;obtain⟨p,rfl⟩:=a0b hb_;clear hb_);refine a0n (λW0 hW0=> ?_);have hO0:RO w ⟨ax,ay,st,sw,sh,sg⟩ w.heap.size (w.heap.size+1) (.slice none 0 0) [] W0:=by
  rw[hW0];exact⟨(Blk.new w _ _).grow _,oM,by rw[hd0];exact World.ownsRow_nil _ _ _ _,oM,zC,by simp,Ent.nil _⟩
 clear hW0;obtain⟨B2,hB2⟩:=zE w.heap.size;rw[hB2]at hO0 hrows ⊢;obtain⟨base,hbase⟩:=zE (B2+1);rw[hbase]at hO0;clear hbase;go_wp2_with fail;go_loopw [5,6] (λv i wr=>∃t:Nat,t<=ws.length/\i= .int .i64 (t:Nat)/\RO w ⟨ax,ay,st,sw,sh,sg⟩ B2 base v (a3r ⟨ax,ay,st,sw,sh,sg⟩ [] ((ws.map Wy.key).take t)) wr) (λ_ i _=>ws.length-(intOf i).toNat)
 case atStart=>exact⟨0,Nat.zero_le _,rfl,hO0⟩
 case round =>
  clear hO0;obtain⟨t,ht,rfl,hO⟩:=hrel;by_cases hlt:t<ws.length
  ·have hltI:(t:Int)<(ws.length:Int):=oM
   obtain⟨b,off,rfl,hb,hy⟩:=hrows t hlt;have hbel:Below B2 w wr:=hB2▸hO.below;have hy':=hy.below hbel hb;have hply:=hpl _ (List.getElem_mem hlt);have hnext:=b4m ⟨ax,ay,st,sw,sh,sg⟩ (ws.map Wy.key) t (by simpa using hlt);rw[List.getElem_map]at hnext;obtain⟨y,hye⟩:=zE (ws[t]);rw[hye]at hy' hply hnext;have hrowsH:=Lib.hid hrows;have hplH:=Lib.hid hpl;clear hye hy hrows hpl;obtain⟨id,line,lv,lvl,cls,nm,stb,wt,di⟩:=y;obtain⟨c0,c1,c2,c3,c4,c5,c6,c7,hpt⟩:=hy';simp only at c0 c1 c2 c3 c4 c5 c6 c7 hpt hply;simp only[Wy.key]at hnext;obtain⟨la,lcap,rfl,hpts⟩:=hpt;obtain⟨en0,hen0⟩:=zE (a3r ⟨ax,ay,st,sw,sh,sg⟩ [] ((ws.map Wy.key).take t));obtain⟨enT,henT⟩:=zE (a3r ⟨ax,ay,st,sw,sh,sg⟩ [] ((ws.map Wy.key).take (t+1)));rw[hen0]at hO hnext;rw[henT]at hnext;replace henT:=Lib.hid henT;clear hen0;replace hnext:=Lib.hid hnext;have hplI:(line.length:Int)<=100:=oM;have hBw:base<=wr.heap.size:=hO.lb;have hlast:∀X,Below w.heap.size w X->∀j,(h:j<line.length)->∃b off,la=some ⟨b,off,none⟩/\X.cell? ⟨b,off+j*2,none⟩=some (.int .i64 line[j].1)/\X.cell? ⟨b,off+j*2+1,none⟩=some (.int .i64 line[j].2):=λX hX j hj=>by
    rw[hB2]at hX;obtain⟨b,off,e,hb,z0,z1⟩:=hpts j hj;exact⟨b,off,e,(hX.cell (p:=⟨b,off+j*2,none⟩) hb).trans ((hbel.cell (p:=⟨b,off+j*2,none⟩) hb).symm.trans z0),(hX.cell (p:=⟨b,off+j*2+1,none⟩) hb).trans ((hbel.cell (p:=⟨b,off+j*2+1,none⟩) hb).symm.trans z1)⟩
   clear hpts;go_wp2_with fail;have hI0:RB w ⟨ax,ay,st,sw,sh,sg⟩ B2 base wr.heap.size #[.int .i64 id,.slice la line.length lcap,.int .i64 lvl,.string cls,.string nm,.bool stb,.int .i64 wt,.int .i64 di] u5 en0 (wr.alloc (.cells #[.int .i64 id,.slice la line.length lcap,.int .i64 lvl,.string cls,.string nm,.bool stb,.int .i64 wt,.int .i64 di] 149)):=⟨hO.alloc _,Blk.new _ _ _⟩;clear c0 c1 c2 c3 c4 c5 c6 c7 hbel;obtain⟨Bw,hBwe⟩:=zE wr.heap.size;rw[hBwe]at hI0 hBw ⊢;obtain⟨W1,hW1⟩:=zE (wr.alloc (.cells #[.int .i64 id,.slice la line.length lcap,.int .i64 lvl,.string cls,.string nm,.bool stb,.int .i64 wt,.int .i64 di] 149));rw[hW1]at hI0 ⊢;clear hW1 hO;obtain⟨C,hC⟩:∃c:Array Value,#[.int .i64 id,.slice la line.length lcap,.int .i64 lvl,.string cls,.string nm,.bool stb,.int .i64 wt,.int .i64 di]=c:=⟨_,rfl⟩;rw[hC]at hI0;have hC0:∀W,Blk W Bw C 149->W.cell? ⟨Bw,0,none⟩=some (.int .i64 id):=λW h=>by rw[h.cell 0,<-hC];rfl
   have hC1:∀W,Blk W Bw C 149->W.cell? ⟨Bw,1,none⟩=some (.slice la line.length lcap):=λW h=>by rw[h.cell 1,<-hC];rfl
   clear hC;go_loopw [8,9] (λr i wx=>∃k:Nat,k<=line.length/\i= .int .i64 (k:Nat)/\r= .bool (a4b (line.take k))/\RB w ⟨ax,ay,st,sw,sh,sg⟩ B2 base Bw C u5 en0 wx) (λ_ i _=>line.length-(intOf i).toNat)
   case atStart=>exact⟨0,Nat.zero_le _,rfl,rfl,hI0⟩
   case round =>
    clear hI0;obtain⟨k,hk,rfl,rfl,hI⟩:=hrel;have z1:=hC1 _ hI.box;by_cases hlk:k<line.length
    ·have hlkI:(k:Int)<(line.length:Int):=oM
     obtain⟨pb,po,rfl,p0,p1⟩:=hlast _ hI.out.below k hlk;have htk:=c3v line k hlk;obtain⟨r0,hr0⟩:=zE (a4b (line.take k));rw[hr0]at htk ⊢;obtain⟨⟨px,py⟩,hpe⟩:∃p,line[k]=p:=⟨_,rfl⟩;rw[hpe]at p0 p1 htk;simp only at p0 p1 htk;obtain⟨r1,hr1⟩:=zE (a1f px py);rw[hr1]at htk;replace hr1:=Lib.hid hr1;replace htk:=Lib.hid htk;clear hpe hr0
     cases r0
     all_goals
      go_wp2_with (first|(go_at_call 90;refine(a5g hr1.out _).mono ?_;rintro e w'⟨rfl,hb_⟩;obtain⟨p,rfl⟩:=a0b hb_;clear hb_)|fail);go_roundw
      case rel=>exact⟨k+1,oM,by go_num,by rw[htk.out];simp,hI.grown (a0q _ _)⟩
      case measure=>simp[intOf];omega
    ·obtain rfl:k=line.length:=oM
     rw[List.take_length];have hgeI:¬(line.length:Int)<(line.length:Int):=oM;obtain⟨r,hr⟩:=zE (a4b line);have hnx:=hnext.out;rw[hr]at hnx ⊢;replace hnext:=Lib.hid hnx;clear hnx
     cases r with
     |false =>
      go_wp2_with fail;refine wp_loop_rounds 1 ?_;rw[rounds_succ];by_cases h0:0<line.length
      ·have h0I:(0:Int)<(line.length:Int):=oM
       exact ydi
      ·have h0I:¬(0:Int)<(line.length:Int):=oM
       exact ydi
     |true =>
      have hrr:=λk hk=>c7d hr k hk
      replace hr:=Lib.hid hr;go_wp2_with fail;go_loopw [5,11] (λv i wx=>∃k:Nat,k<=line.length/\i= .int .i64 (k:Nat)/\RB w ⟨ax,ay,st,sw,sh,sg⟩ B2 base Bw C v (a6j ⟨ax,ay,st,sw,sh,sg⟩ id line en0 k) wx) (λ_ i _=>line.length-(intOf i).toNat)
      case atStart=>exact⟨0,Nat.zero_le _,rfl,hI⟩
      case round =>
       clear hI z1;obtain⟨k,hk,rfl,hI⟩:=hrel;have z1:=hC1 _ hI.box;by_cases hlk:k<line.length
       ·have hlkI:(k:Int)<(line.length:Int):=oM
        obtain⟨pb,po,rfl,p0,p1⟩:=hlast _ hI.out.below k hlk;obtain⟨k2,hk2⟩:=zE (min (k+1) (line.length-1));have hk2l:k2<line.length:=oM;have hk2I:(k2:Int)<(line.length:Int):=oM;have hk2z:0<=(k2:Int):=oM;have hminI:min ((k:Int)+1) ((line.length:Int)-1)=(k2:Int):=oM;obtain⟨pb',po',hpe',q0,q1⟩:=hlast _ hI.out.below k2 hk2l;simp only[Option.some.injEq,Addr.mk.injEq,and_true]at hpe';obtain⟨rfl,rfl⟩:=hpe';have hwl:=c3w ⟨ax,ay,st,sw,sh,sg⟩ line k k2 hlk hk2l hk2;have hws:=a7o ⟨ax,ay,st,sw,sh,sg⟩ id line en0 k;have hrp:=hrr k hlk;have hrq:=hrr k2 hk2l;rw[hwl]at hws;rw[d4u hs hrp hrq]at hws;have hnp:=a5h hs hrp;have hnq:=a5h hs hrq;clear hwl hk2;obtain⟨⟨px,py⟩,hpe⟩:∃p,line[k]=p:=⟨_,rfl⟩;obtain⟨⟨qx,qy⟩,hqe⟩:∃p,line[k2]=p:=⟨_,rfl⟩;rw[hpe]at p0 p1 hrp hws hnp;rw[hqe]at q0 q1 hrq hws hnq;clear hpe hqe;obtain⟨⟨px0,px1⟩,py0,py1⟩:=a2i.1 hrp;obtain⟨⟨qx0,qx1⟩,qy0,qy1⟩:=a2i.1 hrq;simp only at p0 p1 q0 q1 px0 px1 py0 py1 qx0 qx1 qy0 qy1;clear hrp hrq;obtain⟨i0,hi0⟩:=zE (c0y ⟨ax,ay,st,sw,sh,sg⟩ px);obtain⟨j0,hj0⟩:=zE (c0z ⟨ax,ay,st,sw,sh,sg⟩ py);obtain⟨i1,hi1⟩:=zE (c0y ⟨ax,ay,st,sw,sh,sg⟩ qx);obtain⟨j1,hj1⟩:=zE (c0z ⟨ax,ay,st,sw,sh,sg⟩ qy);unfold a4r at hnp hnq hws;simp only at hnp hnq hws;rw[hi0,hj0]at hnp;rw[hi1,hj1]at hnq;rw[hi0,hj0,hi1,hj1]at hws;replace hi0:=Lib.hid hi0;replace hj0:=Lib.hid hj0;replace hi1:=Lib.hid hi1;replace hj1:=Lib.hid hj1;obtain⟨en1,hen1⟩:=zE (a6j ⟨ax,ay,st,sw,sh,sg⟩ id line en0 k);rw[hen1]at hI hws;clear hen1;replace hws:=Lib.hid hws;have hLl:=d0y hnp hnq;obtain⟨d0,d1,d2,d3,d4,d5⟩:=e0y hI.out.sheet;go_upto_region 18 with fail;first|with_reducible refine a0f 14 zM zM ?_|with_reducible refine a0i 14 zM zM ?_
        simp only[zT];repeat(first|go_big_quiet_step ((go_at_call 92;exact Calls.grow_of (b6t ⟨ax,ay,st,sw,sh,sg⟩ _ _ _ _ _ (by first|with_reducible exact hi0.out|with_reducible exact hi1.out) (by first|with_reducible exact hj0.out|with_reducible exact hj1.out) hs oM oM oM oM)))|quiet_step ((go_at_call 92;exact Calls.grow_of (b6t ⟨ax,ay,st,sw,sh,sg⟩ _ _ _ _ _ (by first|with_reducible exact hi0.out|with_reducible exact hi1.out) (by first|with_reducible exact hj0.out|with_reducible exact hj1.out) hs oM oM oM oM))))
        refine wpQuiet_nil ?_;intro _ hw_;obtain⟨p,hw_⟩:=hw_;subst hw_;go_upto_region 19 with(first|(go_at_call 91;refine(d4x i0 j0 i1 j1 _ hnp hnq).mono ?_;rintro e w3⟨lv3,base3,rfl,hb3,hr3,hb4⟩)|fail);have hR0:RL w ⟨ax,ay,st,sw,sh,sg⟩ B2 base Bw C lv3 (a7f (i0,j0) (i1,j1)) u5 en1 w3:=⟨(hI.grown (a0q _ _)).grown (a0s hb4),hr3.mono (Nat.le_trans (Nat.le_trans hI.out.lb (a0q _ _).size) hb3)⟩;clear hr3 hb4 hb3 hI p0 p1 q0 q1 d0 d1 d2 d3 d4 d5 z1 hi0 hj0 hi1 hj1 hnp hnq;obtain⟨L,hL⟩:=zE (a7f (i0,j0) (i1,j1));rw[hL]at hR0 hws hLl;clear hL;obtain⟨l3,cap3,rfl⟩:∃a cap,lv3= .slice a L.length cap:=by
         rcases hR0.line.2 with⟨rfl,h0⟩|⟨g,cap,cur,rfl,_⟩
         ·exact⟨none,0,by rw[h0]⟩
         ·exact⟨_,_,rfl⟩
        have hLI:(L.length:Int)<=200001:=oM;go_wp2_with fail;go_loopw [5,14] (λv i wx=>∃n:Nat,n<=L.length/\i= .int .i64 (n:Nat)/\RL w ⟨ax,ay,st,sw,sh,sg⟩ B2 base Bw C (.slice l3 L.length cap3) L v (b7l ⟨ax,ay,st,sw,sh,sg⟩ id en1 (L.take n)) wx) (λ_ i _=>L.length-(intOf i).toNat)
        case atStart=>exact⟨0,Nat.zero_le _,rfl,hR0⟩
        case round =>
         clear hR0;obtain⟨n,hn,rfl,hM⟩:=hrel;by_cases hln:n<L.length
         ·have hlnI:(n:Int)<(L.length:Int):=oM
          have hlt7:=c7e ⟨ax,ay,st,sw,sh,sg⟩ id en1 L n hln;obtain⟨a',cap',e',hpt'⟩:=b5i hM.line;simp only[Value.slice.injEq,true_and]at e';obtain⟨rfl,rfl⟩:=e';obtain⟨pb7,po7,rfl,-,y0,y1⟩:=hpt' n hln;obtain⟨⟨dx,dy⟩,hde⟩:∃d,L[n]=d:=⟨_,rfl⟩;rw[hde]at y0 y1 hlt7;simp only at y0 y1;clear hde hpt';obtain⟨en,hen⟩:=zE (b7l ⟨ax,ay,st,sw,sh,sg⟩ id en1 (L.take n));rw[hen]at hM hlt7;clear hen;have hdots:=hM.way.out.ent.dots (dx,dy) id;have hent:=hM.way.out.ent.put ((dx,dy),id);simp only at hdots;rw[<-hlt7]at hdots hent;obtain⟨en7,hen7⟩:=zE (b7l ⟨ax,ay,st,sw,sh,sg⟩ id en1 (L.take (n+1)));rw[hen7]at hdots hent hlt7;replace hen7:=Lib.hid hen7;obtain⟨d0,d1,d2,d3,d4,d5⟩:=e0y hM.way.out.sheet;have z0:=hC0 _ hM.way.box;obtain⟨on,hon⟩:=zE (onS ⟨ax,ay,st,sw,sh,sg⟩ dx dy);rw[hon]at hdots
          cases on with
          |false =>
           simp only[Bool.false_eq_true,if_false]at hdots;replace hdots:=Lib.hid hdots;have hsame:a9a ⟨ax,ay,st,sw,sh,sg⟩ en ((dx,dy),id)=en:=by
            unfold a9a c8i;simp[hon]
           rw[hsame]at hlt7;replace hon:=Lib.hid hon;replace hlt7:=Lib.hid hlt7;clear hsame;go_wp2_with fail;first|with_reducible refine a0e zM zM ?_|with_reducible refine a0g zM zM ?_
           repeat(first|go_big_quiet_step ((go_at_call 93;exact Calls.grow_of (a5n ⟨ax,ay,st,sw,sh,sg⟩ _ _ _ _ hon.out)))|quiet_step ((go_at_call 93;exact Calls.grow_of (a5n ⟨ax,ay,st,sw,sh,sg⟩ _ _ _ _ hon.out))))
           refine wpQuiet_nil ?_;intro _ hw_;obtain⟨p,hw_⟩:=hw_;subst hw_;go_wp2_with fail;go_roundw
           case rel=>exact⟨n+1,oM,by go_num,by rw[hen7.out,hlt7.out];exact hM.grown (a0q _ _)⟩
           case measure=>simp[intOf];omega
          |true =>
           simp only[if_true]at hdots;replace hdots:=Lib.hid hdots;replace hon:=Lib.hid hon;replace hlt7:=Lib.hid hlt7;go_wp2_with fail;first|with_reducible refine a0e zM zM ?_|with_reducible refine a0g zM zM ?_
           repeat(first|go_big_quiet_step ((go_at_call 93;exact Calls.grow_of (a5n ⟨ax,ay,st,sw,sh,sg⟩ _ _ _ _ hon.out)))|quiet_step ((go_at_call 93;exact Calls.grow_of (a5n ⟨ax,ay,st,sw,sh,sg⟩ _ _ _ _ hon.out))))
           refine wpQuiet_nil ?_;intro _ hw_;obtain⟨p,hw_⟩:=hw_;subst hw_;go_wp2_with fail;first|with_reducible refine a0f 14 zM zM ?_|with_reducible refine a0i 14 zM zM ?_
           simp only[zT];repeat(first|go_big_quiet_step (fail)|quiet_step (fail))
           refine wpQuiet_nil ?_;intro _ hw_;obtain⟨p,hw_⟩:=hw_;subst hw_;refine(λ(h:∀W,W=_->wpList _ _ _ _ _ W)=>h _ rfl) (λW9 hW9=> ?_);have hM9:RL w ⟨ax,ay,st,sw,sh,sg⟩ B2 base Bw C (.slice (some ⟨pb7,po7,none⟩) L.length cap3) L u5 en W9:=by
            rw[hW9];exact hM.grown (a0q _ _)
           clear hW9 hM y0 y1 d0 d1 d2 d3 d4 d5 z0;have hl6:=hM9.way.out.ent.len hs;have hff:=hM9.way.out.ent.fits hs;go_wp2_with (first|(go_at_call 94;refine(d0w _ (a1h 2 en) dx dy 2 id base _ hM9.way.out.row hM9.way.out.lb oM hff).mono ?_;rintro e w9⟨v9,rfl,hrow9,hg9⟩)|fail);rw[<-hdots.out]at hrow9;go_roundw
           case rel=>exact⟨n+1,oM,by go_num,by rw[hen7.out];exact hM9.put hg9 hrow9 hent⟩
           case measure=>simp[intOf];omega
         ·obtain rfl:n=L.length:=oM
          have hgeI:¬(L.length:Int)<(L.length:Int):=oM;rw[List.take_length]at hM;go_wp2_with fail;go_roundw
          case rel=>exact⟨k+1,oM,by go_num,by rw[hws.out];exact hM.way⟩
          case measure=>simp[intOf];omega
       ·obtain rfl:k=line.length:=oM
        have hgeI:¬(line.length:Int)<(line.length:Int):=oM;exact ydi
  ·obtain rfl:t=ws.length:=oM
   rw[List.take_of_length_le vM]at hO;go_wp2_with fail;go_ret;exact⟨_,base,rfl,hB2▸hO.wb,hO.row,hB2▸hO.below⟩
end
section
open Go.RowKit Go.Shelf
theorem d1a (id:Int)(ps:List a0m)(p:a0m):b3s id (ps++[p])=a6k (b3s id ps) ⟨p.1,p.2,3,id⟩:=by
 unfold b3s;rw[List.foldl_append];rfl
theorem d1b (id:Int)(ps:List a0m)(n:Nat)(h:n<ps.length):b3s id (ps.take (n+1))=a6k (b3s id (ps.take n)) ⟨ps[n].1,ps[n].2,3,id⟩:=by
 rw[List.take_add_one,List.getElem?_eq_getElem h,Option.toList_some,d1a]
end
section
open Go.RowKit Go.Shelf
attribute [local go_sem] Oper.semAt_some
attribute [local go_sem ↓] Go.wp_at_zero Go.wp_at_succ
theorem d5m {s:Sh}{x y i j:Int}{b:Bool}(h:ofS s x y=(i,j,b))(w:World) :
 Calls prog 95 #[shV s,.agg #[.int .i64 x,.int .i64 y]] w λe w'=>e= .returned (.tuple #[.int .i64 i,.int .i64 j,.bool b])/\Below w.heap.size w w':=by
 have h2:=d6v s x y w;rw[h]at h2;exact h2
theorem c0q {cls:ByteArray}{x y:Int}{m:Nat}{b:Bool}(hb:d9b m x y=b)(hm:m<7)(hsum:(b0z cls.data.toList).tmod 7=m)(hcl:cls.size<=1048576)(w:World) :
 Calls prog 96 #[.string cls,.int .i64 x,.int .i64 y] w λe w'=>e= .returned (.bool b)/\w=w':=by
 rw[<-hb];exact c7c cls x y m hm hsum hcl w
theorem e1k {W:World}{B:Nat}{a b c d e f:Int}(h:Blk W B (shC ⟨a,b,c,d,e,f⟩) 28):W.cell? ⟨B,0,none⟩=some (.int .i64 a)/\W.cell? ⟨B,1,none⟩=some (.int .i64 b)/\W.cell? ⟨B,2,none⟩=some (.int .i64 c)/\W.cell? ⟨B,3,none⟩=some (.int .i64 d)/\W.cell? ⟨B,4,none⟩=some (.int .i64 e)/\W.cell? ⟨B,5,none⟩=some (.int .i64 f) :=
 ⟨h.cell 0,h.cell 1,h.cell 2,h.cell 3,h.cell 4,h.cell 5⟩
theorem c7g (i j:Int)(t u:Nat)(hu:u<3):a9f i j (3*t+u)=(i+((u:Int)-1),j+((t:Int)-1)):=by
 unfold a9f;rw[Int.tmod_eq_emod_of_nonneg oM,Int.tdiv_eq_ediv_of_nonneg oM];congr 1 <;> omega
section
variable {s:Sh}{pl:Array Value}{w W W':World}{B3 B4 base:Nat}{lv:Value}{l:List a0m}
theorem PX.appended {g cap:Nat}{p:a0m}(h:PX s pl w B3 B4 base lv l W)(hg:W.grownBy W' lv.ownBlock)(hown:W'.ownsRow base 26 2 (.slice (some ⟨g,0,none⟩) (l.length+1) cap) (l.length+1) (l.flatMap a5u++a5u p)) :
 PX s pl w B3 B4 base (.slice (some ⟨g,0,none⟩) (l.length+1) cap) (l++[p]) W':=by
 have hne:∀B,B<base->lv.ownBlock≠some B:=λB hB e=>by have:=(h.row.lt _ e).1;omega
 refine⟨h.sheet.kept hg (hne _ h.l3),h.place.kept hg (hne _ h.l4),h.l3,h.l4,h.lw,?_,h.below.grown hg h.below.size (λr e=>by have:=(h.row.lt _ e).1;have:=h.lw;omega),Nat.le_trans h.lb hg.size⟩;rw[List.length_append,List.flatMap_append];simpa using hown
end
theorem PY.appended {s:Sh}{pl:Array Value}{w W W':World}{B3 B4 base Bd:Nat}{d:Nat->Bool}{lv:Value}{l:List a0m}{g cap:Nat}{p:a0m}(h:PY s pl w B3 B4 base Bd d lv l W)(hg:(W.alloc (.cells (a5u p).toArray 26)).grownBy W' lv.ownBlock)(hown:W'.ownsRow base 26 2 (.slice (some ⟨g,0,none⟩) (l.length+1) cap) (l.length+1) (l.flatMap a5u++a5u p)) :
 PY s pl w B3 B4 base Bd d (.slice (some ⟨g,0,none⟩) (l.length+1) cap) (l++[p]) W' :=
 ⟨(h.px.alloc _).appended hg hown,(h.box.alloc _).kept hg (b8t (h.px.alloc (.cells (a5u p).toArray 26)).row (h.box.alloc _) jM)⟩
section
variable {s:Sh}{pl:Array Value}{w W W':World}{B3 B4 base:Nat}{lv:Value}{l:List a0m}{v v':Value}{ds ds':List Dt}
end
theorem d1c (s:Sh)(id x y wt di num i j:Int)(b:Bool)(cls name:ByteArray)(w:World)(hof:ofS s x y=(i,j,b))(hno:b=false\/num<1\/999<num) :
 Calls prog 41 #[shV s,.agg (plC id x y wt di cls name),.int .i64 num] w λe w'=>e= .returned (.tuple #[.slice none 0 0,.bool false])/\Below w.heap.size w w':=by
 obtain⟨ax,ay,st,sw,sh,sg⟩:=s;replace hof:=Lib.hid hof
 cases b with
 |false =>
  exact ycu
 |true =>
  by_cases h1:num<1
  ·exact ycu
  ·have h2:999<num:=by rcases hno with h|h|h;cases h;exact absurd h h1;exact h
   exact ycu
theorem c7h (s:Sh)(id x y wt di i j:Int)(n m:Nat)(cls name:ByteArray)(w:World)(hof:ofS s x y=(i,j,true))(hid:fits id)
 (hn0:1<=n) (hn1:n<=999) (hcl:cls.size<=1048576) (hm:m<7) (hsum:(b0z cls.data.toList).tmod 7=m) :
 Calls prog 41 #[shV s,.agg (plC id x y wt di cls name),.int .i64 n] w λe w'=>Below w.heap.size w w' /\
  (((∀p∈a1r i j (a4u m) (a3f n) (a1a n).size,onS s p.1 p.2=true)/\∃v base,e= .returned (.tuple #[v,.bool true])/\w.heap.size<=base/\w'.ownsRow base 54 4 v (b3s id (a1r i j (a4u m) (a3f n) (a1a n).size)).length ((b3s id (a1r i j (a4u m) (a3f n) (a1a n).size)).flatMap a2c)) \/
  ((∃p∈a1r i j (a4u m) (a3f n) (a1a n).size,onS s p.1 p.2=false)/\e= .returned (.tuple #[.slice none 0 0,.bool false]))):=by
 obtain⟨hck,hon⟩:=b1e hof;have hs:=a4h hck;obtain⟨ax,ay,st,sw,sh,sg⟩:=s;have hs':=hs;obtain⟨s0,s1,u0,u1,v0,v1,a0,a1,b0,b1⟩:=hs';simp only at s0 s1 u0 u1 v0 v1 a0 a1 b0 b1;have hij:(0<=i/\i<=80)/\(0<=j/\j<=80):=by
  exact yjo
 obtain⟨⟨i0,i1⟩,j0,j1⟩:=hij;have hsH:=Lib.hid hs;clear hon hck hs s0 s1 a0 a1 b0 b1;replace hof:=Lib.hid hof;have n0I:¬(n:Int)<1:=oM;have n1I:¬999<(n:Int):=oM;have hcs:=a8l n hn1;have hcb:=b2p n;obtain⟨ip,hip,hz0,hz1,hz2⟩:=info_parts b5j;have hdec:=λW=>b3h (n+1) n oM hn1 W
 have htx:=b2a n;have htl:=a4z n;have htl2:=a2z 2 n oM;have htl3:0<(Lib.decDigits n).length:=by rw[Lib.decDigits];split <;> simp
 have hwr:=λW=>c0m (a7c n) htx oM oM W
 have hcN:(⟨(a7z (a7c n) (a7c n).size).toArray⟩:ByteArray)=a1a n:=rfl;rw[hcN]at hwr;have hcD:=a4m n;obtain⟨D,hD⟩:=zE (a3f n);rw[hD]at hcD ⊢;obtain⟨cells,hcells⟩:=zE (a1a n);have hcb2:∀k (hk:k<cells.size),∀W,Calls prog 99 #[.int .u8 (cells[k]).toNat] W λe w'=>e= .returned (.agg #[.bool (D k 0),.bool (D k 1),.bool (D k 2),.bool (D k 3),.bool (D k 4),.bool (D k 5)])/\Below W.heap.size W w':=by
  subst hcells;intro k hk W;rw[hcD k hk 0,hcD k hk 1,hcD k hk 2,hcD k hk 3,hcD k hk 4,hcD k hk 5];exact d9a _ (hcb k hk) W
 rw[hcells]at hcs hwr ⊢;obtain⟨txt,htxt⟩:=zE (a7c n);rw[htxt]at hdec hwr;clear hcb hcD hcN htl htl2 htl3 htx hD hcells htxt;go_enter func41,ntmps41;go_wp2_with (first|(go_at_call 95;refine(d5m hof.out _).mono ?_;rintro e w'⟨rfl,hb_⟩;obtain⟨p,rfl⟩:=a0b hb_;clear hb_)|fail);refine a0n (λW0 hW0=> ?_);have hP0:PX ⟨ax,ay,st,sw,sh,sg⟩ (plC id x y wt di cls name) w w.heap.size (w.heap.size+1) W0.heap.size (.slice none 0 0) [] W0:=by
  have hB:Below w.heap.size w W0:=by
   rw[hW0];exact zC
  have k3:Blk W0 w.heap.size (shC ⟨ax,ay,st,sw,sh,sg⟩) 28:=by
   rw[hW0];exact((Blk.new w _ _).alloc _).grow _
  have k4:Blk W0 (w.heap.size+1) (plC id x y wt di cls name) 66:=by
   rw[hW0];have h:=Blk.new (w.alloc (.cells (shC ⟨ax,ay,st,sw,sh,sg⟩) 28)) (plC id x y wt di cls name) 66;rw[World.size_alloc]at h;exact h.grow _
  exact⟨k3,k4,k3.lt,k4.lt,hB.size,World.ownsRow_nil _ _ _ _,hB,yR _⟩
 clear hW0;obtain⟨base,hbase⟩:=zE W0.heap.size;obtain⟨B4,hB4⟩:=zE (w.heap.size+1);obtain⟨B3,hB3⟩:=zE w.heap.size;rw[hbase,hB4,hB3]at hP0;rw[hB4,hB3];replace hB3:=Lib.hid hB3;clear hbase hB4;go_loopw [11,12] (λv yy wr=>∃t:Nat,t<=3/\yy= .int .i64 ((t:Int)-1)/\PX ⟨ax,ay,st,sw,sh,sg⟩ (plC id x y wt di cls name) w B3 B4 base v (a3w i j (a4u m) (3*t)) wr) (λ_ yy _=>3-(intOf yy+1).toNat)
 case atStart=>exact⟨0,oM,rfl,hP0⟩
 case round =>
  clear hP0;obtain⟨t,ht,rfl,hP⟩:=hrel;by_cases hlt:t<3
  ·have hltI:(t:Int)-1<=1:=oM
   go_wp2_with fail;go_loopw [11,13] (λv xx wr=>∃u:Nat,u<=3/\xx= .int .i64 ((u:Int)-1)/\PX ⟨ax,ay,st,sw,sh,sg⟩ (plC id x y wt di cls name) w B3 B4 base v (a3w i j (a4u m) (3*t+u)) wr) (λ_ xx _=>3-(intOf xx+1).toNat)
   case atStart=>exact⟨0,oM,rfl,hP⟩
   case round =>
    clear hP;obtain⟨u,hu,rfl,hP⟩:=hrel;by_cases hlu:u<3
    ·have hluI:(u:Int)-1<=1:=oM
     have hsym:=d0s m t u hm hlt hlu;have hnx:a3w i j (a4u m) (3*t+(u+1))=a3w i j (a4u m) (3*t+u)++(if a4u m (3*t+u)then [(i+((u:Int)-1),j+((t:Int)-1))]else []):=by
      rw[<-c7g i j t u hlu];rfl
     obtain⟨b,hb⟩:=zE (a4u m (3*t+u));rw[hb]at hsym hnx;replace hsym:=Lib.hid hsym;clear hb;obtain⟨l,hl⟩:=zE (a3w i j (a4u m) (3*t+u));have hll:l.length<=100:=by have:=a5d i j (a4u m) (3*t+u);rw[hl]at this;omega
     rw[hl]at hP hnx;clear hl;have z2:=hP.place.cell 3;replace z2:wr.cell? ⟨B4,3,none⟩=some (.string cls):=z2;have hrow:=hP.row;have hle:=hP.lb
     cases b with
     |false =>
      replace hnx:=Lib.hid hnx;go_wp2_with (first|(go_at_call 96;refine(c0q hsym.out hm hsum hcl _).mono ?_;rintro e w'⟨rfl,rfl⟩)|fail);go_roundw
      case rel=>exact⟨u+1,oM,by go_num,by rw[hnx.out];simpa using hP⟩
      case measure=>simp[intOf];omega
     |true =>
      replace hnx:=Lib.hid hnx;have w1:IntKind.i64.wrap (i+((u:Int)-1))=i+((u:Int)-1):=a0k oM oM;have w2:IntKind.i64.wrap (j+((t:Int)-1))=j+((t:Int)-1):=a0k oM oM;go_wp2_with (first
       |(go_at_call 96;refine(c0q hsym.out hm hsum hcl _).mono ?_;rintro e w'⟨rfl,rfl⟩)
       |(at_builtin;refine wpList_append_lies _ qM _ _ _ qM base 26 ip _ 2 16 underlying147 hip hz0 hz1 hz2 qM oM u11 l.length _ qM ((hP.alloc _).row) ⟨wr.heap.size,0,none⟩ 1 1 (a5u (i+((u:Int)-1),j+((t:Int)-1))) qM qM (d7k (Blk.new _ _ _)) (by simp[Value.oneCell']) oM oK oM (hP.alloc _).lb _ rfl ?_;intro g cap W2 hown hgrow hat hltg))
      go_roundw
      case rel=>exact⟨u+1,oM,by go_num,by rw[hnx.out];exact(hP.alloc _).appended hgrow hown⟩
      case measure=>simp[intOf];omega
    ·obtain rfl:u=3:=oM
     go_wp2_with fail;go_roundw
     case rel=>exact⟨t+1,oM,by go_num,by rw[show 3*(t+1)=3*t+3 from by omega];exact hP⟩
     case measure=>simp[intOf];omega
  ·obtain rfl:t=3:=oM
   rw[show 3*3=9 from rfl]at hP;obtain⟨l9,hl9⟩:=zE (a3w i j (a4u m) 9);have hpe:a1r i j (a4u m) D cells.size=a2g i j D l9 cells.size:=by unfold a1r;rw[hl9]
   have h9:l9.length<=9:=by rw[<-hl9];exact a5d i j (a4u m) 9
   rw[hl9]at hP;replace hpe:=Lib.hid hpe;clear hl9 hsum hm;go_wp2_with (first
    |(go_at_call 98;refine(hdec _).mono ?_;rintro e w1⟨rfl,hb1⟩)
    |(go_at_call 97;refine(hwr _).mono ?_;rintro e w2⟨rfl,hb2⟩))
   replace hP:=(hP.up hb1).up hb2;clear hb1 hb2 hdec hwr;go_loopw [11,16] (λv kk wr=>∃k:Nat,k<=cells.size/\kk= .int .i64 (k:Nat)/\PX ⟨ax,ay,st,sw,sh,sg⟩ (plC id x y wt di cls name) w B3 B4 base v (a2g i j D l9 k) wr) (λ_ kk _=>cells.size-(intOf kk).toNat)
   case atStart=>exact⟨0,Nat.zero_le _,rfl,hP⟩
   case round =>
    clear hP;obtain⟨k,hk,rfl,hP⟩:=hrel;by_cases hlk:k<cells.size
    ·have hlkI:(k:Int)<(cells.size:Int):=oM
     have hdots:=hcb2 k hlk;obtain⟨c,hc⟩:=zE ((cells[k]'hlk).toNat);rw[hc]at hdots;have hnx:a2g i j D l9 (k+1)=a4l i j k (D k) (a2g i j D l9 k) 6:=rfl;obtain⟨l,hl⟩:=zE (a2g i j D l9 k);have hll:l.length<=100:=by have:=a4c i j D l9 k;rw[hl]at this;omega
     rw[hl]at hP hnx;obtain⟨d,hd⟩:=zE (D k);rw[hd]at hnx hdots;replace hnx:=Lib.hid hnx;clear hl hd;go_wp2_with (first
      |(refine a0j qM 9 _ _ qM cells .i64 (k:Nat) qM qM underlying9 c oM oM (by rw[<-hc];rfl) ?_)
      |(go_at_call 99;refine(hdots _).mono ?_;rintro e w3⟨rfl,hb3⟩))
     have hY:PY ⟨ax,ay,st,sw,sh,sg⟩ (plC id x y wt di cls name) w B3 B4 base w3.heap.size d u11 l (w3.alloc (.cells #[.bool (d 0),.bool (d 1),.bool (d 2),.bool (d 3),.bool (d 4),.bool (d 5)] 126)):=⟨(hP.up hb3).alloc _,Blk.new _ _ _⟩;clear hb3 hP hdots hc;obtain⟨Bd,hBd⟩:=zE w3.heap.size;obtain⟨W4,hW4⟩:=zE (w3.alloc (.cells #[.bool (d 0),.bool (d 1),.bool (d 2),.bool (d 3),.bool (d 4),.bool (d 5)] 126));rw[hBd,hW4]at hY;rw[hBd,hW4];clear hBd hW4;go_loopw [11,18] (λv nn wr=>∃q:Nat,q<=6/\nn= .int .i64 (q:Nat)/\PY ⟨ax,ay,st,sw,sh,sg⟩ (plC id x y wt di cls name) w B3 B4 base Bd d v (a4l i j k d l q) wr) (λ_ nn _=>6-(intOf nn).toNat)
     case atStart=>exact⟨0,oM,rfl,hY⟩
     case round =>
      clear hY;obtain⟨q,hq,rfl,hY⟩:=hrel;by_cases hlq:q<6
      ·have hlqI:(q:Int)<6:=oM
       have hnq:a4l i j k d l (q+1)=a4l i j k d l q++(if d q then [(i+3+3*(k:Int)+(q:Int).tdiv 3,j+1-(q:Int).tmod 3)]else []):=rfl;have zq:=hY.cell q hlq;obtain⟨l2,hl2⟩:=zE (a4l i j k d l q);have hll2:l2.length<=200:=by have:=a9l i j k d l q;rw[hl2]at this;omega
       rw[hl2]at hY hnq;clear hl2;have td0:0<=(q:Int).tdiv 3/\(q:Int).tdiv 3<=2:=by rw[Int.tdiv_eq_ediv_of_nonneg oM];omega
       have tm0:0<=(q:Int).tmod 3/\(q:Int).tmod 3<=2:=by rw[Int.tmod_eq_emod_of_nonneg oM];omega
       have tme:(q:Int) % 3=(q:Int).tmod 3:=by rw[Int.tmod_eq_emod_of_nonneg oM]
       obtain⟨b,hb⟩:=zE (d q);rw[hb]at zq hnq;clear hb
       cases b with
       |false =>
        replace hnq:=Lib.hid hnq;go_wp2_with fail;go_roundw
        case rel=>exact⟨q+1,oM,by go_num,by rw[hnq.out];simpa using hY⟩
        case measure=>simp[intOf];omega
       |true =>
        obtain⟨a3,ha3⟩:=zE ((q:Int).tdiv 3);obtain⟨r3,hr3⟩:=zE ((q:Int).tmod 3);rw[ha3]at td0 hnq;rw[hr3]at tm0 tme hnq;obtain⟨td0,td1⟩:=td0;obtain⟨tm0,tm1⟩:=tm0;replace hnq:=Lib.hid hnq;have v1:IntKind.i64.wrap (3*(k:Int))=3*(k:Int):=a0k oM oM;have v2:IntKind.i64.wrap (i+3)=i+3:=a0k oM oM;have v3:IntKind.i64.wrap (i+3+3*(k:Int))=i+3+3*(k:Int):=a0k oM oM;have v4:IntKind.i64.wrap (i+3+3*(k:Int)+a3)=i+3+3*(k:Int)+a3:=a0k oM oM;have v5:IntKind.i64.wrap (j+1)=j+1:=a0k oM oM;have v6:IntKind.i64.wrap (j+1-r3)=j+1-r3:=a0k oM oM;have v7:IntKind.i64.wrap a3=a3:=a0k oM oM;have v8:IntKind.i64.wrap r3=r3:=a0k oM oM;go_wp2_with (first
         |(at_builtin;refine wpList_append_lies _ qM _ _ _ qM base 26 ip _ 2 16 underlying147 hip hz0 hz1 hz2 qM oM u11 l2.length _ qM ((hY.px.alloc _).row) ⟨wr.heap.size,0,none⟩ 1 1 (a5u (i+3+3*(k:Int)+a3,j+1-r3)) qM qM (d7k (Blk.new _ _ _)) (by simp[Value.oneCell']) oM oK oM (hY.px.alloc _).lb _ rfl ?_;intro g cap W2 hown hgrow hat hltg))
        go_roundw
        case rel=>exact⟨q+1,oM,by go_num,by rw[hnq.out];exact hY.appended hgrow hown⟩
        case measure=>simp[intOf];omega
      ·obtain rfl:q=6:=oM
       go_wp2_with fail;go_roundw
       case rel=>exact⟨k+1,oM,by go_num,by rw[hnx.out];exact hY.px⟩
       case measure=>simp[intOf];omega
    ·obtain rfl:k=cells.size:=oM
     have hge:¬(cells.size:Int)<(cells.size:Int):=oM;obtain⟨l,hl⟩:=zE (a2g i j D l9 cells.size);have hll:l.length<=100:=by have:=a4c i j D l9 cells.size;rw[hl]at this;omega
     rw[hl]at hP;have hpl:=Lib.hid (hpe.out.trans hl);clear hl hcb2 hpe;obtain⟨la,lcap,rfl⟩:∃a cap,u11= .slice a l.length cap:=by
      rcases hP.row.2 with⟨rfl,h0⟩|⟨g,cap,cur,rfl,_⟩
      ·exact⟨none,0,by rw[h0]⟩
      ·exact⟨_,_,rfl⟩
     go_wp2_with fail;go_loopw [19,20] (λv kk wr=>∃k:Nat,k<=l.length/\kk= .int .i64 (k:Nat)/\(∀p∈l.take k,onS ⟨ax,ay,st,sw,sh,sg⟩ p.1 p.2=true)/\PZ ⟨ax,ay,st,sw,sh,sg⟩ (plC id x y wt di cls name) w B3 B4 base (.slice la l.length lcap) l v (b3s id (l.take k)) wr) (λ_ kk _=>l.length-(intOf kk).toNat)
     case atStart=>exact⟨0,Nat.zero_le _,rfl,by simp,hP,World.ownsRow_nil _ _ _ _⟩
     case round =>
      clear hP;obtain⟨k,hk,rfl,hall,hZ⟩:=hrel;by_cases hlk:k<l.length
      ·have hlkI:(k:Int)<(l.length:Int):=oM
       have hnx:=d1b id l k hlk;have hdl:=a4d id (l.take k);rw[List.length_take]at hdl;have hmem:l[k]∈l:=List.getElem_mem hlk;have hall2:onS ⟨ax,ay,st,sw,sh,sg⟩ l[k].1 l[k].2=true->∀p∈l.take (k+1),onS ⟨ax,ay,st,sw,sh,sg⟩ p.1 p.2=true:=λh p hp=>by
        rw[List.take_add_one,List.getElem?_eq_getElem hlk,Option.toList_some]at hp;rcases List.mem_append.1 hp with hp|hp
        ·exact hall p hp
        ·rw[List.mem_singleton.1 hp]
         exact h
       have hff:∀d∈b3s id (l.take k),fits d.x/\fits d.y:=λd hd=>by
        have h8:=a6c.1 (b5z hall d hd);simp only at h8;exact⟨⟨oM,oM⟩,oM,oM⟩
       obtain⟨a',cap',e',hpt'⟩:=b5i hZ.px.row;simp only[Value.slice.injEq,true_and]at e';obtain⟨rfl,rfl⟩:=e';obtain⟨pb7,po7,rfl,-,y0,y1⟩:=hpt' k hlk;obtain⟨⟨dx,dy⟩,hde⟩:∃d,l[k]=d:=⟨_,rfl⟩;rw[hde]at y0 y1 hnx hmem hall2;simp only at y0 y1 hall2;clear hde hpt';obtain⟨d0,d1,d2,d3,d4,d5⟩:=e1k hZ.px.sheet;have z0:=hZ.px.place.cell 0;replace z0:wr.cell? ⟨B4,0,none⟩=some (.int .i64 id):=z0;obtain⟨ds,hds⟩:=zE (b3s id (l.take k));rw[hds]at hZ hnx hdl hff;clear hds;obtain⟨on,hon⟩:=zE (onS ⟨ax,ay,st,sw,sh,sg⟩ dx dy);rw[hon]at hall2;have honH:=Lib.hid hon;clear hon
       cases on with
       |false =>
        clear hall2 hall;go_wp2_with fail;first|with_reducible refine a0e zM zM ?_|with_reducible refine a0g zM zM ?_
        repeat(first|go_big_quiet_step ((go_at_call 93;exact Calls.grow_of (a5n ⟨ax,ay,st,sw,sh,sg⟩ _ _ _ _ honH.out)))|quiet_step ((go_at_call 93;exact Calls.grow_of (a5n ⟨ax,ay,st,sw,sh,sg⟩ _ _ _ _ honH.out))))
        refine wpQuiet_nil ?_;intro _ hw_;obtain⟨p,hw_⟩:=hw_;subst hw_;go_wp2_with fail;go_ret2;rw[hpl.out];exact⟨below_growBy' (hB3.out▸hZ.px.below) (Nat.le_trans hZ.px.lw hZ.px.lb) _,.inr ⟨⟨_,hmem,honH.out⟩,rfl⟩⟩
       |true =>
        have hall3:=Lib.hid (hall2 rfl);clear hall2 hall;replace hnx:=Lib.hid hnx;go_wp2_with fail;first|with_reducible refine a0e zM zM ?_|with_reducible refine a0g zM zM ?_
        repeat(first|go_big_quiet_step ((go_at_call 93;exact Calls.grow_of (a5n ⟨ax,ay,st,sw,sh,sg⟩ _ _ _ _ honH.out)))|quiet_step ((go_at_call 93;exact Calls.grow_of (a5n ⟨ax,ay,st,sw,sh,sg⟩ _ _ _ _ honH.out))))
        refine wpQuiet_nil ?_;intro _ hw_;obtain⟨p,hw_⟩:=hw_;subst hw_;go_wp2_with fail;first|with_reducible refine a0f 14 zM zM ?_|with_reducible refine a0i 14 zM zM ?_
        simp only[zT];repeat(first|go_big_quiet_step (fail)|quiet_step (fail))
        refine wpQuiet_nil ?_;intro _ hw_;obtain⟨p,hw_⟩:=hw_;subst hw_;refine(λ(h:∀W,W=_->wpList _ _ _ _ _ W)=>h _ rfl) (λW9 hW9=> ?_);have hZ9:PZ ⟨ax,ay,st,sw,sh,sg⟩ (plC id x y wt di cls name) w B3 B4 base (.slice (some ⟨pb7,po7,none⟩) l.length lcap) l u19 ds W9:=by
         rw[hW9];exact hZ.grown (a0q _ _)
        clear hW9 hZ y0 y1 d0 d1 d2 d3 d4 d5 z0;go_wp2_with (first|(go_at_call 94;refine(d0w _ ds dx dy 3 id base _ hZ9.out hZ9.px.lb oM hff).mono ?_;rintro e w9⟨v9,rfl,hrow9,hg9⟩)|fail);rw[<-hnx.out]at hrow9;go_roundw
        case rel=>exact⟨k+1,oM,by go_num,hall3.out,hZ9.put hg9 hrow9⟩
        case measure=>simp[intOf];omega
      ·obtain rfl:k=l.length:=oM
       rw[List.take_length]at hall hZ;go_wp2_with fail;go_ret2;rw[hpl.out];exact⟨hB3.out▸hZ.px.below,.inl ⟨hall,_,base,rfl,hB3.out▸hZ.px.lw,hZ.out⟩⟩
end
section
open Go Go.RowKit Go.Shelf Go.Lib
attribute [local go_sem] Oper.semAt_some
attribute [local go_sem ↓] Go.wp_at_zero Go.wp_at_succ
section
variable {P:Program}{α:Type}{E:El α}{st:TypeId}
theorem El.allG (hE:E.Ok)(hI:E.In P st){ops:Array Oper}{rest:List Oper}{o:Oper}{a:Act}{w:World}{Q:Exit->Act->World->Prop}(hgd:o.guard=none)(s x:Operand)
 (ho:o.op= .call { callee:= .builtin .append,args:= #[s,x],argTypes:= #[st,st] }) (base:Nat) {v:Value} (hs:a.eval s=v) (l:List α) (hv:w.ownsRow base E.t E.s v l.length (l.flatMap E.enc)) {xv:Value} (l2:List α) (hxv:a.eval x=xv) {n0:Nat} (hx:Lst E n0 w xv l2) (hf:Frm xv l2.length) (hl:l.length+l2.length<=100000) (hb:base<=w.heap.size)
 (h:∀v' w',w'.ownsRow base E.t E.s v' (l++l2).length ((l++l2).flatMap E.enc)->w.grownBy w' v.ownBlock->Below base w w'->(v'.ownBlock=v.ownBlock\/v'.ownBlock=some w.heap.size)->wpList P ops Q rest (a.put o.dst v') w') :
 wpList P ops Q (o::rest) a w:=by
 obtain⟨v',w',hr,h2,h3,h4,h5⟩:=El.append_all hE hI w base v xv l l2 o.type hv hx hf hl hb;refine wpList_plain hgd λK hK=> ?_
 unfold Oper.wp execOp;simp only[ho,resolve,invoke,builtin,Sem.run_bind,Sem.run_pure,Result.andThen_ok,List.map_toArray,List.map_cons,List.map_nil,hs,hxv,hr];exact hK _ _ (h v' w' h2 h3 h4 h5)
end
theorem c7i (s:Sh)(id x y wt di num:Int)(cls name:ByteArray)(w:World)(hid:fits id)(hcl:cls.size<=1000) :
 Calls prog 41 #[shV s,.agg (plC id x y wt di cls name),.int .i64 num] w λe w'=>∃v,e= .returned (.tuple #[v,.bool (plF s x y id cls num).1])/\(Lst dtE w'.heap.size w' v (plF s x y id cls num).2/\Frm v (plF s x y id cls num).2.length/\Dts w'.heap.size w' v (plF s x y id cls num).2)/\Below w.heap.size w w':=by
 obtain⟨⟨i,j,b⟩,hof⟩:∃p,ofS s x y=p:=⟨_,rfl⟩;by_cases hr:b=false\/num<1\/999<num
 ·rw[c8z hof hr]
  refine(d1c s id x y wt di num i j b cls name w hof hr).mono ?_;rintro e w'⟨rfl,hb⟩;exact⟨_,rfl,⟨Lst.nil _ _ _,.inl rfl,.inl ⟨rfl,rfl⟩⟩,hb⟩
 ·obtain rfl:b=true:=by cases b;exact absurd (.inl rfl) hr;rfl
  obtain⟨n,rfl⟩:∃n:Nat,num=n:=⟨num.toNat,oM⟩;rw[c9a hof oM oM];unfold b8z;rw[Int.toNat_natCast];obtain⟨hm,hsum⟩:=d5g cls;have hs:=a4h (b1e hof).1;have hpl:=b0c i j (a4u (plM cls)) n oM;refine(c7h s id x y wt di i j n (plM cls) cls name w hof hid oM oM oM hm hsum).mono ?_;rintro e w'⟨hb,⟨h,v,base,rfl,-,hrow⟩|⟨⟨p,hp,h⟩,rfl⟩⟩
  ·rw[if_pos (List.all_eq_true.2 h)]
   exact⟨v,rfl,⟨a0h (E:=dtE) a8a hrow (by have:=a4d id (a1r i j (a4u (plM cls)) (a3f n) (a1a n).size);simp only;omega),a1p hrow,d6d hs oM h hrow⟩,hb⟩
  ·rw[if_neg (λhc=>by have:=List.all_eq_true.1 hc p hp;rw[h]at this;cases this)]
   exact⟨_,rfl,⟨Lst.nil _ _ _,.inl rfl,.inl ⟨rfl,rfl⟩⟩,hb⟩
structure MapOd (W:World)(wv pv:Value)(l:List Pc)(ws:List Wy):Prop where
 p:Lst plE W.heap.size W pv l
 frm:Frm pv l.length
 len:l.length<=100
 ok:∀p∈l,PcOk p/\p.cls.size<=1000
 w:Wys W.heap.size W wv ws
 wl:ws.length<=100
 wo:∀y∈ws,fits y.id/\y.line.length<=100
theorem MapOd.up {W W':World}{wv pv:Value}{l:List Pc}{ws:List Wy}(h:MapOd W wv pv l ws)(hb:Below W.heap.size W W'):MapOd W' wv pv l ws :=
 ⟨h.p.up hb,h.frm,h.len,h.ok,h.w.up hb hb.size,h.wl,h.wo⟩
theorem MapOk.od {W:World}{wv pv:Value}{l:List Pc}{ws:List Wy}(h:MapOk W wv pv l ws):MapOd W wv pv l ws :=
 ⟨h.p,h.frm,by have:=h.len;omega,λp hp=>⟨h.ok.ok p hp,h.ok.cl p hp⟩,h.w,h.wl,h.wo⟩
structure OdR (n1:Nat)(S:BS)(W:World)(wv pv:Value)(nw:Nat)(l:List Pc):Prop where
 tw:TW S W
 w:SL S W 149 wv nw
 nw:nw<=100
 row:W.ownsRow n1 66 7 pv l.length (l.flatMap plE.enc)
 low:∀b,S b->n1<=b
 len:l.length<=100
 ok:∀p∈l,PcOk p/\p.cls.size<=1000
theorem OdR.same {n1:Nat}{S:BS}{W W':World}{wv pv:Value}{nw:Nat}{l:List Pc}(h:OdR n1 S W wv pv nw l)(hs:∀b,n1<=b->b<W.heap.size->W'.heap[b]? =W.heap[b]?):OdR n1 S W' wv pv nw l :=
 { h with tw:=h.tw.of_same λb hb=>hs b (h.low b hb) (h.tw.lt hb),w:=h.w.mono (λ_ h=>h) λb c e hb hc=>⟨c,(hs b (h.low b hb) (h.tw.lt hb)).trans hc,rfl⟩,row:=c5a h.row hs }
theorem OdR.up {n1:Nat}{S:BS}{W W':World}{wv pv:Value}{nw:Nat}{l:List Pc}(h:OdR n1 S W wv pv nw l)(hb:Below W.heap.size W W'):OdR n1 S W' wv pv nw l:=h.same λb _ h2=>hb.block b h2
theorem OdR.map {n1:Nat}{S:BS}{W:World}{wv pv:Value}{nw:Nat}{l:List Pc}(h:OdR n1 S W wv pv nw l):∃ws,MapOd W wv pv l ws:=by
 obtain⟨ws,h1,h2,h3⟩:=b3f h.tw h.w;exact⟨ws,a0h a4f h.row (by have:=h.len;omega),a1p h.row,h.len,h.ok,h2,by rw[h1];exact h.nw,h3⟩
theorem OdR.of {n0 n1:Nat}{S:BS}{W W':World}{ev fv wv pv:Value}{ne nf nw ne' nf' nw':Nat}{l l':List Pc}(hR:MapR n0 S W' ev fv wv pv ne' nf' nw' l')(hO:OddR ne nf nw l ne' nf' nw' l')(hE:Ev noB noB W S W')(hn:n1<=W.heap.size)(hn0:n1<=n0)(hnw:nw<=20)(hl:l.length<=6)(hok:∀p∈l,PcOk p/\p.cls.size<=1000) :
 ∃a1 m1 c1 a2 m2 c2 a3 m3 c3 a4 c4 l2 S3,(.agg #[ev,fv,wv,pv]:Value)= .agg #[.slice a1 m1 c1,.slice a2 m2 c2,.slice a3 m3 c3,.slice a4 l2.length c4]/\OdR n1 S3 W' (.slice a3 m3 c3) (.slice a4 l2.length c4) m3 l2:=by
 have hw:=hR.w;have hr:=hR.row;have hlp:l'.length<=100:=by have:=hO.p;omega
 obtain⟨a1,c1,rfl,-⟩:=hR.e.form;obtain⟨a2,c2,rfl,-⟩:=hR.f.form;obtain⟨a3,c3,rfl,-⟩:=hR.w.form;obtain⟨a4,c4,rfl,-⟩:=(a0h a4f hr oM).form;exact⟨_,_,_,_,_,_,_,_,_,_,_,l',S,rfl,hE.ok,hw,by have:=hO.w;omega,a6y hr hn0,λb hb=>(hE.new b hb).elim (λh=>h.elim) λh=>Nat.le_trans hn h,hlp,λp hp=>⟨hO.ok (λq hq=>(hok q hq).1) p hp,hO.cl (λq hq=>(hok q hq).2) p hp⟩⟩
def FMo (nn BM n1:Nat)(ea fa wa pa:Option Addr)(ne ec nf fc nw wc pn pc:Nat)(q0 q1 q2 b0 b1 b2 b3:Int)(raw:Sh)(i:Nat)(v:Value)(w:World):Prop :=
 match i with
 |0=>v= .agg #[.slice ea ne ec,.slice fa nf fc,.slice wa nw wc,.slice pa pn pc]
 |1=>v= .agg #[.slice ea ne ec,.slice fa nf fc,.slice wa nw wc,.slice pa pn pc]
 |2=>v= .pointer (some ⟨nn,1,none⟩)
 |3=>v= .agg #[.int .i64 q0,.int .i64 q1,.int .i64 q2]
 |4=>∃a1 m1 c1 a2 m2 c2 a3 m3 c3 a4 c4 l2 S3,v= .agg #[.slice a1 m1 c1,.slice a2 m2 c2,.slice a3 m3 c3,.slice a4 l2.length c4]/\OdR n1 S3 w (.slice a3 m3 c3) (.slice a4 l2.length c4) m3 l2
 |5=>v= .pointer (some ⟨nn,4,none⟩)
 |6=>v= .agg #[.int .u8 b0,.int .u8 b1,.int .u8 b2,.int .u8 b3]
 |7=>v= .pointer (some ⟨nn,8,none⟩)
 |8=>v= .agg #[.int .i64 raw.ax,.int .i64 raw.ay,.int .i64 raw.st,.int .i64 raw.w,.int .i64 raw.h,.int .i64 raw.g]
 |9=>v=shV (a6s b0 b1 b2 b3 raw)
 |_=>False
theorem FMo.kept {nn BM n1:Nat}{ea fa wa pa:Option Addr}{ne ec nf fc nw wc pn pc:Nat}{q0 q1 q2 b0 b1 b2 b3:Int}{raw:Sh}{i:Nat}{v:Value}{w w':World}(h:FMo nn BM n1 ea fa wa pa ne ec nf fc nw wc pn pc q0 q1 q2 b0 b1 b2 b3 raw i v w)(hg:Below w.heap.size w w'):FMo nn BM n1 ea fa wa pa ne ec nf fc nw wc pn pc q0 q1 q2 b0 b1 b2 b3 raw i v w':=by
 unfold FMo at *;split at h
 all_goals first|exact h|(obtain⟨a1,m1,c1,a2,m2,c2,a3,m3,c3,a4,c4,l2,S3,h1,h2⟩:=h;exact⟨a1,m1,c1,a2,m2,c2,a3,m3,c3,a4,c4,l2,S3,h1,h2.up hg⟩)
theorem d7p (la:Option Addr)(lcap:Nat)(rows:List (Value×List Int))(q0 q1 q2 b0 b1 b2 b3:Int)(raw:Sh)(fq0:fits q0)(fq1:fits q1)(fq2:fits q2)(h0:0<=b0/\b0<=255)(h1:0<=b1/\b1<=255)(h2:0<=b2/\b2<=255)(h3:0<=b3/\b3<=255)(w:World)(hM:Mat w.heap.size w (.slice la rows.length lcap) rows) :
 Calls prog 9 #[.agg (b0u (.slice la rows.length lcap) q0 q1 q2 b0 b1 b2 b3 raw)] w λe w'=>∃ea ne ec fa nf fc wa nw wc pa pc a1 n1 c1 a2 n2 c2 a3 n3 c3 a4 c4 l ws l2 ws2,e= .returned (.tuple #[.agg #[.slice ea ne ec,.slice fa nf fc,.slice wa nw wc,.slice pa l.length pc],.agg #[.slice a1 n1 c1,.slice a2 n2 c2,.slice a3 n3 c3,.slice a4 l2.length c4],shV (a6s b0 b1 b2 b3 raw)])/\MapOk w' (.slice wa nw wc) (.slice pa l.length pc) l ws/\MapOd w' (.slice a3 n3 c3) (.slice a4 l2.length c4) l2 ws2/\Below w.heap.size w w':=by
 obtain⟨_,_,e_,hlc,-⟩:=id hM
 cases e_;obtain⟨m,hm⟩:=zE (min rows.length 8);have hmI:min (rows.length:Int) 8=(m:Nat):=oM;have hm0:0<=(m:Int):=oM;have hmc:(m:Int)<=(lcap:Int):=oM;have hmn:m<=lcap:=oM;have hml:m<=rows.length:=oM;replace hm:=Lib.hid hm;go_enter func9,ntmps9;go_upto_region 1 with fail;have kC:=(((Blk.new w (b0u (.slice la rows.length lcap) q0 q1 q2 b0 b1 b2 b3 raw) 30).alloc (.cells #[.slice none 0 0,.slice none 0 0,.slice none 0 0,.slice none 0 0] 37)).alloc (.cells #[.slice none 0 0,.slice none 0 0,.slice none 0 0,.slice none 0 0] 37)).alloc (.cells #[.int .i64 0,.int .i64 0,.int .i64 0,.int .i64 0,.int .i64 0,.int .i64 0] 28);have kM:=((Blk.new (w.alloc (.cells (b0u (.slice la rows.length lcap) q0 q1 q2 b0 b1 b2 b3 raw) 30)) #[.slice none 0 0,.slice none 0 0,.slice none 0 0,.slice none 0 0] 37).alloc (.cells #[.slice none 0 0,.slice none 0 0,.slice none 0 0,.slice none 0 0] 37)).alloc (.cells #[.int .i64 0,.int .i64 0,.int .i64 0,.int .i64 0,.int .i64 0,.int .i64 0] 28);have kO:=(Blk.new ((w.alloc (.cells (b0u (.slice la rows.length lcap) q0 q1 q2 b0 b1 b2 b3 raw) 30)).alloc (.cells #[.slice none 0 0,.slice none 0 0,.slice none 0 0,.slice none 0 0] 37)) #[.slice none 0 0,.slice none 0 0,.slice none 0 0,.slice none 0 0] 37).alloc (.cells #[.int .i64 0,.int .i64 0,.int .i64 0,.int .i64 0,.int .i64 0,.int .i64 0] 28);have kS:=Blk.new (((w.alloc (.cells (b0u (.slice la rows.length lcap) q0 q1 q2 b0 b1 b2 b3 raw) 30)).alloc (.cells #[.slice none 0 0,.slice none 0 0,.slice none 0 0,.slice none 0 0] 37)).alloc (.cells #[.slice none 0 0,.slice none 0 0,.slice none 0 0,.slice none 0 0] 37)) #[.int .i64 0,.int .i64 0,.int .i64 0,.int .i64 0,.int .i64 0,.int .i64 0] 28;obtain⟨W1,hW1⟩:=zE ((((w.alloc (.cells (b0u (.slice la rows.length lcap) q0 q1 q2 b0 b1 b2 b3 raw) 30)).alloc (.cells #[.slice none 0 0,.slice none 0 0,.slice none 0 0,.slice none 0 0] 37)).alloc (.cells #[.slice none 0 0,.slice none 0 0,.slice none 0 0,.slice none 0 0] 37)).alloc (.cells #[.int .i64 0,.int .i64 0,.int .i64 0,.int .i64 0,.int .i64 0,.int .i64 0] 28));have hb1:Below w.heap.size w W1:=by rw[<-hW1];exact((((zR _ _).alloc (yR _) _).alloc vM _).alloc uM _).alloc uM _
 simp only[World.size_alloc]at kM kO kS;rw[hW1]at kC kM kO kS ⊢;clear hW1;have hM1:=((hM.below hb1).mono hb1.size).take m hml;have c0:W1.cell? ⟨w.heap.size,0,none⟩=some (.slice la rows.length lcap):=kC.cell 0;go_upto_region 2 with(first
  |(go_at_call 30;(with_reducible refine(c2f _ _ _ hM1).mono ?_);rintro e w2⟨S2,ev,fv,wv,pv,l,rfl,⟨⟨ne,hse,hne⟩,⟨nf,hsf,hnf⟩,nw,hsw,hnw⟩,hl6,hok,hr2,hoff,hev2⟩;obtain⟨ea,ec,rfl,-⟩:=hse.form;obtain⟨fa,fc,rfl,-⟩:=hsf.form;obtain⟨wa,wc,rfl,-⟩:=hsw.form;have hp2:=a0h a4f hr2 oM;have hfp:=a1p hr2;obtain⟨pa,pc,rfl,-⟩:=hp2.form))
 have hb2:=hev2.low30;have hT2:=hev2.ok;obtain⟨ws,hwn,hws,hwo⟩:=b3f hT2 hsw;have hb23:Below w2.heap.size w2 (w2.alloc (.cells #[.slice ea ne ec,.slice fa nf fc,.slice wa nw wc,.slice pa l.length pc] 37)):=(zR _ _).alloc (yR _) _;have kB:=Blk.new w2 #[.slice ea ne ec,.slice fa nf fc,.slice wa nw wc,.slice pa l.length pc] 37;obtain⟨W3,hW3⟩:=zE (w2.alloc (.cells #[.slice ea ne ec,.slice fa nf fc,.slice wa nw wc,.slice pa l.length pc] 37));rw[hW3]at hb23 kB ⊢;obtain⟨BM,hBM⟩:=zE w2.heap.size;have hsame:∀b,S2 b->W3.heap[b]? =w2.heap[b]? :=λb hb=>hb23.block b (hT2.lt hb)
 have hsh:Shp S2 w2 W3:=λb c e hb hc=>⟨c,(hsame b hb).trans hc,rfl⟩
 have hI:MapI S2 W3 (.slice ea ne ec) (.slice fa nf fc) (.slice wa nw wc) (.slice pa l.length pc) ne nf nw l:=⟨hT2.of_same hsame,hse.mono (λ_ h=>h) hsh,hsf.mono (λ_ h=>h) hsh,hsw.mono (λ_ h=>h) hsh,hp2.up hb23,hfp,oM,oM,oM,oM⟩;have hM3:MapOk W3 (.slice wa nw wc) (.slice pa l.length pc) l ws:=⟨hp2.up hb23,hfp,hl6,hok,hws.up hb23 hb23.size,oM,hwo⟩;have hb13:=hb2.trans (hb23.mono hb2.size);have hb230:=hb23;have hz23:=hb23.size;have kC3:=kC.below hb13 kC.lt;have kM3:=kM.below hb13 kM.lt;have kO3:=kO.below hb13 kO.lt;have kS3:=kS.below hb13 kS.lt;have hbw3:=hb1.trans (hb13.mono hb1.size);rw[hBM]at kB ⊢;clear hW3 hBM hsame hsh hse hsf hp2 hws hwo c0 hM1 hM kC kM kO hb13 hb23;have hMd:MdR S2 w.heap.size BM ea fa wa pa ne ec nf fc nw wc l.length pc l (.slice la rows.length lcap) q0 q1 q2 b0 b1 b2 b3 raw W3 W3:=⟨kC3,kB,hI,zR _ _,yR _,fq0,fq1,fq2,h0,h1,h2,h3⟩;refine Go.wp_region_rel 10 zM zM (λ_ W=>MdR S2 w.heap.size BM ea fa wa pa ne ec nf fc nw wc l.length pc l (.slice la rows.length lcap) q0 q1 q2 b0 b1 b2 b3 raw W3 W) (λw w'=>Below w.heap.size w w') (FMo w.heap.size BM W1.heap.size ea fa wa pa ne ec nf fc nw wc l.length pc q0 q1 q2 b0 b1 b2 b3 raw) (λ_ _ _ _ h g=>h.kept g) (hMd.up (zR _ _).drew) ?step2 ?tail2
 case step2 =>
  obtain⟨nn,hnn⟩:=zE w.heap.size;have hokl:∀p∈l,PcOk p/\p.cls.size<=1000:=λp hp=>⟨hok.ok p hp,hok.cl p hp⟩
  obtain⟨pn,hpn⟩:=zE l.length;have hn13:W1.heap.size<=W3.heap.size:=Nat.le_trans hb2.size hz23;obtain⟨n1,hn1⟩:=zE W1.heap.size;rw[hnn,hpn,hn1];rw[hn1]at hn13;replace hnw:nw<=20:=oM;clear hMd hM3 kC3 kM3 kO3 kS3 hbw3 kB hI hsw hT2 hev2 hr2 hb2 hwn ws hoff hfp kS hok hb230 hz23 hn1;intro i o hi ho c bb W hc hM hA hD K hK;match i,hi,ho with
  |0,_,ho =>
   exact ycm
  |1,_,ho =>
   exact ycm
  |2,_,ho =>
   cases ho;have f1:=a0a (v:= .pointer (some ⟨nn,0,none⟩)) (hA.at_ (k:=1) zM);go_simp;exact hK (.pointer (some ⟨nn,1,none⟩)) W rfl (zR _ _) hM
  |3,_,ho =>
   cases ho;have f16:=a0a (v:= .pointer (some ⟨nn,1,none⟩)) (a0c hD 2 16 zM rfl rfl);have z0:W.cell? ⟨nn,1,none⟩=some (.int .i64 q0):=hM.c.cell 1;have z1:W.cell? ⟨nn,2,none⟩=some (.int .i64 q1):=hM.c.cell 2;have z2:W.cell? ⟨nn,3,none⟩=some (.int .i64 q2):=hM.c.cell 3;go_simp;exact hK (.agg #[.int .i64 q0,.int .i64 q1,.int .i64 q2]) W rfl (zR _ _) hM
  |4,_,ho =>
   cases ho;have f15:=a0a (v:= .agg #[.slice ea ne ec,.slice fa nf fc,.slice wa nw wc,.slice pa pn pc]) (a0c hD 1 15 zM rfl rfl);have f17:=a0a (v:= .agg #[.int .i64 q0,.int .i64 q1,.int .i64 q2]) (a0c hD 3 17 zM rfl rfl);go_simp;refine(d0m _ W _ _ _ _ _ _ _ _ hM.I q0 q1 q2 hM.f0 hM.f1 hM.f2).mono ?_;rintro e W'⟨S',ev',fv',wv',pv',ne',nf',nw',l',rfl,hR,hO,hE⟩;go_simp;exact hK _ W' (OdR.of hR hO hE (Nat.le_trans hn13 hM.sz) (Nat.le_trans hn13 hM.sz) hnw hl6 hokl) hE.low30 (hM.up hE.low30)
  |5,_,ho =>
   cases ho;have f1:=a0a (v:= .pointer (some ⟨nn,0,none⟩)) (hA.at_ (k:=1) zM);go_simp;exact hK (.pointer (some ⟨nn,4,none⟩)) W rfl (zR _ _) hM
  |6,_,ho =>
   cases ho;have f19:=a0a (v:= .pointer (some ⟨nn,4,none⟩)) (a0c hD 5 19 zM rfl rfl);have z0:W.cell? ⟨nn,4,none⟩=some (.int .u8 b0):=hM.c.cell 4;have z1:W.cell? ⟨nn,5,none⟩=some (.int .u8 b1):=hM.c.cell 5;have z2:W.cell? ⟨nn,6,none⟩=some (.int .u8 b2):=hM.c.cell 6;have z3:W.cell? ⟨nn,7,none⟩=some (.int .u8 b3):=hM.c.cell 7;go_simp;exact hK (.agg #[.int .u8 b0,.int .u8 b1,.int .u8 b2,.int .u8 b3]) W rfl (zR _ _) hM
  |7,_,ho =>
   cases ho;have f1:=a0a (v:= .pointer (some ⟨nn,0,none⟩)) (hA.at_ (k:=1) zM);go_simp;exact hK (.pointer (some ⟨nn,8,none⟩)) W rfl (zR _ _) hM
  |8,_,ho =>
   cases ho;have f21:=a0a (v:= .pointer (some ⟨nn,8,none⟩)) (a0c hD 7 21 zM rfl rfl);have z0:W.cell? ⟨nn,8,none⟩=some (.int .i64 raw.ax):=hM.c.cell 8;have z1:W.cell? ⟨nn,9,none⟩=some (.int .i64 raw.ay):=hM.c.cell 9;have z2:W.cell? ⟨nn,10,none⟩=some (.int .i64 raw.st):=hM.c.cell 10;have z3:W.cell? ⟨nn,11,none⟩=some (.int .i64 raw.w):=hM.c.cell 11;have z4:W.cell? ⟨nn,12,none⟩=some (.int .i64 raw.h):=hM.c.cell 12;have z5:W.cell? ⟨nn,13,none⟩=some (.int .i64 raw.g):=hM.c.cell 13;go_simp;exact hK (.agg #[.int .i64 raw.ax,.int .i64 raw.ay,.int .i64 raw.st,.int .i64 raw.w,.int .i64 raw.h,.int .i64 raw.g]) W rfl (zR _ _) hM
  |9,_,ho =>
   cases ho;have f20:=a0a (v:= .agg #[.int .u8 b0,.int .u8 b1,.int .u8 b2,.int .u8 b3]) (a0c hD 6 20 zM rfl rfl);have f22:=a0a (v:= .agg #[.int .i64 raw.ax,.int .i64 raw.ay,.int .i64 raw.st,.int .i64 raw.w,.int .i64 raw.h,.int .i64 raw.g]) (a0c hD 8 22 zM rfl rfl);go_simp;refine(d7a b0 b1 b2 b3 hM.h0 hM.h1 hM.h2 hM.h3 raw W).mono ?_;rintro e W'⟨rfl,hb⟩;go_simp;exact hK _ W' rfl hb (hM.up hb)
  |i+10,hi,_=>exact absurd hi oM
 case tail2 =>
  intro bb W' hM hA hall;have h14:bb.eval (.tmp 14)= .agg #[.slice ea ne ec,.slice fa nf fc,.slice wa nw wc,.slice pa l.length pc]:=hall 0 oM _ _ rfl rfl;obtain⟨a1,m1,d1,a2,m2,d2,a3,m3,d3,a4,d4,l2,S3,h18,hOd⟩:=(show ∃a1 n1 c1 a2 n2 c2 a3 n3 c3 a4 c4 l2 S3,bb.eval (.tmp 18)= .agg #[.slice a1 n1 c1,.slice a2 n2 c2,.slice a3 n3 c3,.slice a4 l2.length c4]/\OdR W1.heap.size S3 W' (.slice a3 n3 c3) (.slice a4 l2.length c4) n3 l2 from hall 4 oM _ _ rfl rfl);obtain⟨m4,hm4⟩:=zE l2.length;rw[hm4]at h18;replace hm4:=Lib.hid hm4;have h23:bb.eval (.tmp 23)=shV (a6s b0 b1 b2 b3 raw):=hall 9 oM _ _ rfl rfl;have hfr:=hA.frame (rT 14 (rF 10 ([]))) _ rfl zM;clear hall hA;obtain⟨f,hf⟩:∃f:Nat->Value,(λk=>bb.tmps.getD k undef)=f:=⟨_,rfl⟩;have g14:f 14= .agg #[.slice ea ne ec,.slice fa nf fc,.slice wa nw wc,.slice pa l.length pc]:=by rw[<-hf,<-h14];rfl
  have g18:f 18= .agg #[.slice a1 m1 d1,.slice a2 m2 d2,.slice a3 m3 d3,.slice a4 m4 d4]:=by rw[<-hf,<-h18];rfl
  have g23:f 23=shV (a6s b0 b1 b2 b3 raw):=by rw[<-hf,<-h23];rfl
  rw[hf]at hfr;clear hf h14 h18 h23;obtain⟨sh,hsh⟩:=zE (a6s b0 b1 b2 b3 raw);rw[hsh]at g23;replace hsh:=Lib.hid hsh;subst hfr;simp only[rT,rF,a1z,g14,g18,g23,Nat.reduceAdd];clear g14 g18 g23;simp only[zU];have kM4:=kM3.below hM.bel kM3.lt;have kO4:=kO3.below hM.bel kO3.lt;have kS4:=kS3.below hM.bel kS3.lt;have hbw4:=hbw3.trans (hM.bel.mono hbw3.size);have hn3:=kS.lt;have hs4:∀b,W1.heap.size<=b->b<w2.heap.size->W'.heap[b]? =w2.heap[b]? :=λb _ hb=>(hM.bel.block b (Nat.lt_of_lt_of_le hb hz23)).trans (hb230.block b hb)
  clear hM hMd hM3 kC3 kM3 kO3 kS3 kB hI hbw3;obtain⟨e0,e1,e2,e3⟩:=zN4 kM4;obtain⟨o0,o1,o2,o3⟩:=zN4 kO4;obtain⟨t0,t1,t2,t3,t4,t5⟩:=zN6 kS4;have fe:=kM4.frozen;have fo:=kO4.frozen;have ft:=kS4.frozen;have hne1:w.heap.size+1≠w.heap.size+1+1:=oM;have hne2:w.heap.size+1≠w.heap.size+1+1+1:=oM;have hne3:w.heap.size+1+1≠w.heap.size+1+1+1:=oM;have kMf:=((kM4.set4 (.slice ea ne ec) (.slice fa nf fc) (.slice wa nw wc) (.slice pa l.length pc)).not4 hne1 (.slice a1 m1 d1) (.slice a2 m2 d2) (.slice a3 m3 d3) (.slice a4 m4 d4)).not6 hne2 (.int .i64 sh.ax) (.int .i64 sh.ay) (.int .i64 sh.st) (.int .i64 sh.w) (.int .i64 sh.h) (.int .i64 sh.g);have kOf:=((kO4.not4 hne1.symm (.slice ea ne ec) (.slice fa nf fc) (.slice wa nw wc) (.slice pa l.length pc)).set4 (.slice a1 m1 d1) (.slice a2 m2 d2) (.slice a3 m3 d3) (.slice a4 m4 d4)).not6 hne3 (.int .i64 sh.ax) (.int .i64 sh.ay) (.int .i64 sh.st) (.int .i64 sh.w) (.int .i64 sh.h) (.int .i64 sh.g);have kSf:=((kS4.not4 hne2.symm (.slice ea ne ec) (.slice fa nf fc) (.slice wa nw wc) (.slice pa l.length pc)).not4 hne3.symm (.slice a1 m1 d1) (.slice a2 m2 d2) (.slice a3 m3 d3) (.slice a4 m4 d4)).set6 (.int .i64 sh.ax) (.int .i64 sh.ay) (.int .i64 sh.st) (.int .i64 sh.w) (.int .i64 sh.h) (.int .i64 sh.g);have hbF:=e0i (d8z (d8z hbw4 (B:=w.heap.size+1) oM (.slice ea ne ec) (.slice fa nf fc) (.slice wa nw wc) (.slice pa l.length pc)) (B:=w.heap.size+1+1) oM (.slice a1 m1 d1) (.slice a2 m2 d2) (.slice a3 m3 d3) (.slice a4 m4 d4)) (B:=w.heap.size+1+1+1) oM (.int .i64 sh.ax) (.int .i64 sh.ay) (.int .i64 sh.st) (.int .i64 sh.w) (.int .i64 sh.h) (.int .i64 sh.g);unfold c3r c6z at kMf kOf kSf hbF;clear kM4 kO4 kS4;go_wp2_with fail;obtain⟨WF,hWF⟩:=zE (c6z (c3r (c3r W' (w.heap.size+1) (.slice ea ne ec) (.slice fa nf fc) (.slice wa nw wc) (.slice pa l.length pc)) (w.heap.size+1+1) (.slice a1 m1 d1) (.slice a2 m2 d2) (.slice a3 m3 d3) (.slice a4 m4 d4)) (w.heap.size+1+1+1) (.int .i64 sh.ax) (.int .i64 sh.ay) (.int .i64 sh.st) (.int .i64 sh.w) (.int .i64 sh.h) (.int .i64 sh.g));unfold c3r c6z at hWF;have hsF:∀b,W1.heap.size<=b->b<w2.heap.size->WF.heap[b]? =w2.heap[b]? :=λb h1 h2=>by
   rw[<-hWF];simp only[a3k (show b≠w.heap.size+1 by omega),a3k (show b≠w.heap.size+1+1 by omega),a3k (show b≠w.heap.size+1+1+1 by omega)];exact hs4 b h1 h2
  have hsO:∀b,W1.heap.size<=b->b<W'.heap.size->WF.heap[b]? =W'.heap[b]? :=λb h1 h2=>by
   rw[<-hWF];simp only[a3k (show b≠w.heap.size+1 by omega),a3k (show b≠w.heap.size+1+1 by omega),a3k (show b≠w.heap.size+1+1+1 by omega)]
  rw[hWF]at hbF kMf kOf kSf ⊢;clear hWF e0 e1 e2 e3 o0 o1 o2 o3 t0 t1 t2 t3 t4 t5 fe fo ft;have hnw2:∀b,S2 b->W1.heap.size<=b:=λb hb=>(hev2.new b hb).elim (λh=>h.elim) id
  have hTF:TW S2 WF:=hT2.of_same λb hb=>hsF b (hnw2 b hb) (hT2.lt hb)
  have hswF:SL S2 WF 149 (.slice wa nw wc) nw:=hsw.mono (λ_ h=>h) λb c e hb hc=>⟨c,(hsF b (hnw2 b hb) (hT2.lt hb)).trans hc,rfl⟩
  have hrF:=c5a hr2 hsF;obtain⟨ws',hwn',hws',hwo'⟩:=b3f hTF hswF;have hpF:=a0h a4f hrF oM;obtain⟨ws2,hMd2⟩:=(hOd.same hsO).map;exact bodyPost_ret (b6y qM qM kMf underlying37 qM zM qM kOf underlying37 qM zM qM kSf underlying28 qM zM) rfl ⟨_,_,_,_,_,_,_,_,_,_,_,_,_,_,_,_,_,_,_,_,_,_,l,ws',l2,ws2,by rw[hsh.out,hm4.out],⟨hpF,hfp,hl6,hok,hws',oM,hwo'⟩,hMd2,hbF⟩
theorem c5d (W:World):PlanIn W (a3s (.slice none 0 0) (.slice none 0 0) (.slice none 0 0)) ⟨[],[],[]⟩ :=
 ⟨_,_,_,rfl,⟨⟨_,_,rfl,yR _,by simp,λk hk=>by simp at hk⟩,.inl rfl⟩,⟨⟨_,_,rfl,yR _,by simp,λk hk=>by simp at hk⟩,.inl rfl⟩,⟨_,_,rfl,yR _,by simp,λk hk=>by simp at hk⟩,.inl rfl⟩
theorem d4y (s:Sh)(f0:fits s.ax)(f1:fits s.ay)(ev fv wv:Value)(pa:Option Addr)(n pc:Nat)(c:Int)(hc:a3c s n=c)(hs:c≠0)(w:World) :
 Calls prog 10 #[b7q ev fv wv (.slice pa n pc),shV s] w λe w'=>e= .returned (.tuple #[a3s (.slice none 0 0) (.slice none 0 0) (.slice none 0 0),.int .i64 c])/\Below w.heap.size w w':=by
 have hBg:=λw=>a8q s ev fv wv pa n pc w f0 f1
 rw[hc]at hBg;have hc0:(c != 0)=true:=by simpa using hs
 clear hc hs;go_enter func10,ntmps10;go_wp2_with (first
  |(go_at_call 33;(with_reducible refine(hBg _).mono ?_);rintro e W1⟨rfl,hb1⟩
    have k3:=(Blk.new ((w.alloc (.cells #[ev,fv,wv,.slice pa n pc] 37)).alloc (.cells #[.int .i64 s.ax,.int .i64 s.ay,.int .i64 s.st,.int .i64 s.w,.int .i64 s.h,.int .i64 s.g] 28)) #[.slice none 0 0,.slice none 0 0,.slice none 0 0] 45).below hb1 vM;have hbw:Below w.heap.size w W1:=((((zR _ _).alloc (yR _) _).alloc vM _).alloc uM _).trans (hb1.mono uM);simp only[World.size_alloc]at k3;have r0:W1.cell? ⟨w.heap.size+1+1,0,none⟩=some (.slice none 0 0):=k3.cell 0;have r1:W1.cell? ⟨w.heap.size+1+1,1,none⟩=some (.slice none 0 0):=k3.cell 1;have r2:W1.cell? ⟨w.heap.size+1+1,2,none⟩=some (.slice none 0 0):=k3.cell 2;have z0:=k3.frozen 0;have z1:=k3.frozen 1;have z2:=k3.frozen 2;have hz:=hbw.size))
 exact ycw
end
end Go.Proofs.YtfocdbjceedagaaGreatDoor
