/-
  Parts.
-/
import Derived.Test.YtfocdbjceedagaaGreatDoorCba
set_option linter.unusedVariables false
set_option linter.unusedSimpArgs false
set_option maxHeartbeats 16000000
set_option maxRecDepth 100000
namespace Go.Proofs.YtfocdbjceedagaaGreatDoor
open Tryz
section
open Go.RowKit Go.Shelf
theorem Ent.fits {s:Sh}{en:List (a0l×Int)}(h:Ent s en)(hs:OkS s):∀d∈a1k 2 en,fits d.x/\fits d.y:=λd hd=>by
 have h9:=b0a hd;obtain⟨cs,rfl⟩:=h;have h8:=a5y.1 (b2z s cs [] vM _ h9);have w1:=hs.w1;have v1:=hs.h1;simp only at h8;exact⟨⟨oM,oM⟩,oM,oM⟩
theorem Ent.dots {s:Sh}{en:List (a0l×Int)}(h:Ent s en)(p:a0l)(id:Int):a1k 2 (a9q s en (p,id))=if onS s p.1 p.2 then a6b (a1k 2 en) ⟨p.1,p.2,2,id⟩else a1k 2 en:=b5o 2 s en (p,id) h.nodup
def b8h (s:Sh)(id:Int)(en:List (a0l×Int))(ps:List a0l):List (a0l×Int):=(ps.map (λp=>(p,id))).foldl (a9q s) en
theorem c8j (s:Sh)(id:Int)(en:List (a0l×Int))(ps:List a0l)(n:Nat)(h:n<ps.length):b8h s id en (ps.take (n+1))=a9q s (b8h s id en (ps.take n)) (ps[n],id):=by
 unfold b8h;rw[List.take_add_one,List.getElem?_eq_getElem h,List.map_append,List.foldl_append];rfl
theorem d2k {s:Sh}{p q:a0l}(h:∀k:Nat,k<=(a3i (a5c s p) (a5c s q)).toNat->a7v (a2z (a5c s p) (a5c s q) k))(h0:0<=a3i (a5c s p) (a5c s q)):(b4p s p q).map (·.1)=a7u (a5c s p) (a5c s q):=by
 unfold b4p a7u b8k;rw[List.map_map];refine List.map_congr_left λk hk=> ?_
 rw[List.mem_range]at hk;exact b2l (h k oM)
theorem c1j {s:Sh}{p q:a0l}(id:Int)(en:List (a0l×Int))(h:(b4p s p q).map (·.1)=a7u (a5c s p) (a5c s q)):a3p s id en (b4p s p q)=b8h s id en (a7u (a5c s p) (a5c s q)):=by
 rw[b0v,b8h,<-h,List.map_map];rfl
theorem a5u {s:Sh}(hs:OkS s){p:a0l}(h:a1j p.1 p.2=true):Near5 (a5c s p):=by
 obtain⟨⟨x0,x1⟩,y0,y1⟩:=a2u.1 h;obtain⟨s0,s1,-,-,-,-,a0,a1,b0,b1⟩:=hs;obtain⟨c0,c1⟩:=b0p (a:=p.1-s.ax) (b:=s.st) (M:=40000) oM oM oM oM;obtain⟨d0,d1⟩:=b0p (a:=p.2-s.ay) (b:=s.st) (M:=40000) oM oM oM oM;exact⟨by show -100000<=(p.1-s.ax) / s.st;omega,by show(p.1-s.ax) / s.st<=100000;omega,by show -100000<=(p.2-s.ay) / s.st;omega,by show(p.2-s.ay) / s.st<=100000;omega⟩
theorem d6s {a b:a0l}(ha:Near5 a)(hb:Near5 b)(k:Nat)(hk:k<=(a3i a b).toNat):a7v (a2z a b k):=by
 obtain⟨N0,N1⟩:=a7o ha hb;obtain⟨ax,ay⟩:=a;obtain⟨bx,by_⟩:=b;obtain⟨N,hN⟩:=zE (a3i (ax,ay) (bx,by_));rw[hN]at N0 N1 hk;obtain⟨a0,a1,a2,a3⟩:=ha;obtain⟨b0,b1,b2,b3⟩:=hb;simp only at a0 a1 a2 a3 b0 b1 b2 b3;by_cases hz:0<N
 ·rw[a9u hN hz]
  obtain⟨X0,X1⟩:=c4s (a:=2*(k:Int)) (b:=bx-ax) oM oM oM oM;obtain⟨Y0,Y1⟩:=c4s (a:=2*(k:Int)) (b:=by_-ay) oM oM oM oM;obtain⟨RY,RZ⟩:=b0p (a:=2*(k:Int)*(bx-ax)+N) (b:=2*N) (M:=100000000000) oM oM oM oM;obtain⟨R0,R1⟩:=b0p (a:=2*(k:Int)*(by_-ay)+N) (b:=2*N) (M:=100000000000) oM oM oM oM;exact⟨⟨by show _<=ax+_;omega,by show ax+_<=_;omega⟩,by show _<=ay+_;omega,by show ay+_<=_;omega⟩
 ·rw[a8a hN hz]
  exact⟨⟨by show _<=ax;omega,by show ax<=_;omega⟩,by show _<=ay;omega,by show ay<=_;omega⟩
theorem d6t {s:Sh}(hs:OkS s){p q:a0l}(hp:a1j p.1 p.2=true)(hq:a1j q.1 q.2=true)(id:Int)(en:List (a0l×Int)):a3p s id en (b4p s p q)=b8h s id en (a7u (a5c s p) (a5c s q)) :=
 c1j id en (d2k (λk hk=>d6s (a5u hs hp) (a5u hs hq) k hk) (a7o (a5u hs hp) (a5u hs hq)).1)
section
variable {w W W':Wd}{s:Sh}{B2 base Bw:Nat}{v v':Vu}{en iG:List (a0l×Int)}{c:Array Value}{lv:Vu}{l:List a0l}
end
theorem c4u (s:Sh)(ps:List a0l)(k k2:Nat)(hk:k<ps.length)(h2:k2<ps.length)(he:min (k+1) (ps.length-1)=k2):a6s s ps k=b4p s ps[k] ps[k2]:=by
 unfold a6s;rw[he,List.getD_eq_getElem?_getD,List.getElem?_eq_getElem hk,List.getD_eq_getElem?_getD,List.getElem?_eq_getElem h2];rfl
theorem e4c {W:Wd}{B:Nat}{a b c d e f:Int}(h:Blk W B #[.int .i64 a,.int .i64 b,.int .i64 c,.int .i64 d,.int .i64 e,.int .i64 f] 28):W.cell? ⟨B,0,none⟩=some (.int .i64 a)/\W.cell? ⟨B,1,none⟩=some (.int .i64 b)/\W.cell? ⟨B,2,none⟩=some (.int .i64 c)/\W.cell? ⟨B,3,none⟩=some (.int .i64 d)/\W.cell? ⟨B,4,none⟩=some (.int .i64 e)/\W.cell? ⟨B,5,none⟩=some (.int .i64 f) :=
 ⟨h.cell 0,h.cell 1,h.cell 2,h.cell 3,h.cell 4,h.cell 5⟩
theorem d6u (ax ay bx by_:Int)(w:Wd)(ha:Near5 (ax,ay))(hb:Near5 (bx,by_)) :
 Calls prog 91 #[.agg #[.int .i64 ax,.int .i64 ay],.agg #[.int .i64 bx,.int .i64 by_]] w λe w'=>∃v base,e= .returned v/\w.heap.size<=base/\w'.ownsRow base 26 2 v (a7u (ax,ay) (bx,by_)).length ((a7u (ax,ay) (bx,by_)).flatMap a6j)/\Below w.heap.size w w':=d2c (ax,ay) (bx,by_) w ha hb
theorem d2l {a b:a0l}(ha:Near5 a)(hb:Near5 b):(a7u a b).length<=200001:=by
 obtain⟨h0,h1⟩:=a7o ha hb;unfold a7u;rw[a3c];omega
theorem c1k (s:Sh)(sv:Vu)(ws:List Wy)(w:Wd)(hc:a1h s=0)(hW:Wys w.heap.size w sv ws)(hlen:ws.length<=100)(aO:∀y∈ws,y.line.length<=100) :
 Calls prog 39 #[shV s,sv] w λe w'=>∃v base,e= .returned v/\w.heap.size<=base/\w'.ownsRow base 54 4 v (a1k 2 (a4b s [] (ws.map Wy.key))).length ((a1k 2 (a4b s [] (ws.map Wy.key))).flatMap a2k)/\Below w.heap.size w w':=by
 have hs:=a4l hc;obtain⟨ax,ay,st,sw,sh,sg⟩:=s;have wS:=Lib.hid hc;clear hc;have E9:a1k 2 []=[]:=by simp[a1k,a2y]
 obtain⟨wa,qt,rfl,ep⟩:=hW;go_enter func39,ntmps39;go_upto_region 3 with(go_at_call 89;refine(a9j wS.out _).mono ?_;rintro e w'⟨rfl,al⟩;obtain⟨p,rfl⟩:=a0c al;clear al);refine a0m (λW0 eA=> ?_);have Gb:RO w ⟨ax,ay,st,sw,sh,sg⟩ w.heap.size (w.heap.size+1) (.slice none 0 0) [] W0:=by
  rw[eA];exact⟨(Blk.new w _ _).grow _,oM,by rw[E9];exact World.ownsRow_nil _ _ _ _,oM,zC,by simp,Ent.nil _⟩
 clear eA;obtain⟨B2,aG⟩:=zE w.heap.size;rw[aG]at Gb ep ⊢;obtain⟨base,aD⟩:=zE (B2+1);rw[aD]at Gb;clear aD;go_wp2_with fail;go_loopw [5,6] (λv i wr=>∃t:Nat,t<=ws.length/\i= .int .i64 (t:Nat)/\RO w ⟨ax,ay,st,sw,sh,sg⟩ B2 base v (a4b ⟨ax,ay,st,sw,sh,sg⟩ [] ((ws.map Wy.key).take t)) wr) (λ_ i _=>ws.length-(intOf i).toNat)
 case atStart=>exact⟨0,Nat.zero_le _,rfl,Gb⟩
 case round =>
  clear Gb;obtain⟨t,ht,rfl,hO⟩:=hrel;by_cases ag:t<ws.length
  ·have aA:(t:Int)<(ws.length:Int):=oM
   obtain⟨b,off,rfl,hb,hy⟩:=ep t ag;have bU:Below B2 w wr:=aG▸hO.below;have CE:=hy.below bU hb;have oA:=aO _ (List.getElem_mem ag);have aq:=b5n ⟨ax,ay,st,sw,sh,sg⟩ (ws.map Wy.key) t (by simpa using ag);rw[List.getElem_map]at aq;obtain⟨y,As⟩:=zE (ws[t]);rw[As]at CE oA aq;have qu:=Lib.hid ep;have Sb:=Lib.hid aO;clear As hy ep aO;obtain⟨id,line,lv,lvl,cls,nm,stb,wt,di⟩:=y;obtain⟨c0,c1,c2,c3,c4,c5,c6,c7,iS⟩:=CE;simp only at c0 c1 c2 c3 c4 c5 c6 c7 iS oA;simp only[Wy.key]at aq;obtain⟨la,ar,rfl,kD⟩:=iS;obtain⟨en0,qv⟩:=zE (a4b ⟨ax,ay,st,sw,sh,sg⟩ [] ((ws.map Wy.key).take t));obtain⟨OM,iC⟩:=zE (a4b ⟨ax,ay,st,sw,sh,sg⟩ [] ((ws.map Wy.key).take (t+1)));rw[qv]at hO aq;rw[iC]at aq;replace iC:=Lib.hid iC;clear qv;replace aq:=Lib.hid aq;have Hg:(line.length:Int)<=100:=oM;have tm:base<=wr.heap.size:=hO.lb;have gG:∀X,Below w.heap.size w X->∀j,(h:j<line.length)->∃b off,la=some ⟨b,off,none⟩/\X.cell? ⟨b,off+j*2,none⟩=some (.int .i64 line[j].1)/\X.cell? ⟨b,off+j*2+1,none⟩=some (.int .i64 line[j].2):=λX hX j hj=>by
    rw[aG]at hX;obtain⟨b,off,e,hb,z0,z1⟩:=kD j hj;exact⟨b,off,e,(hX.cell (p:=⟨b,off+j*2,none⟩) hb).trans ((bU.cell (p:=⟨b,off+j*2,none⟩) hb).symm.trans z0),(hX.cell (p:=⟨b,off+j*2+1,none⟩) hb).trans ((bU.cell (p:=⟨b,off+j*2+1,none⟩) hb).symm.trans z1)⟩
   clear kD;go_wp2_with fail;have nu:RB w ⟨ax,ay,st,sw,sh,sg⟩ B2 base wr.heap.size #[.int .i64 id,.slice la line.length ar,.int .i64 lvl,.string cls,.string nm,.bool stb,.int .i64 wt,.int .i64 di] u5 en0 (wr.alloc (.cells #[.int .i64 id,.slice la line.length ar,.int .i64 lvl,.string cls,.string nm,.bool stb,.int .i64 wt,.int .i64 di] 149)):=⟨hO.alloc _,Blk.new _ _ _⟩;clear c0 c1 c2 c3 c4 c5 c6 c7 bU;obtain⟨Bw,KA⟩:=zE wr.heap.size;rw[KA]at nu tm ⊢;obtain⟨W1,aH⟩:=zE (wr.alloc (.cells #[.int .i64 id,.slice la line.length ar,.int .i64 lvl,.string cls,.string nm,.bool stb,.int .i64 wt,.int .i64 di] 149));rw[aH]at nu ⊢;clear aH hO;obtain⟨C,hC⟩:∃c:Array Value,#[.int .i64 id,.slice la line.length ar,.int .i64 lvl,.string cls,.string nm,.bool stb,.int .i64 wt,.int .i64 di]=c:=⟨_,rfl⟩;rw[hC]at nu;have pN:∀W,Blk W Bw C 149->W.cell? ⟨Bw,0,none⟩=some (.int .i64 id):=λW h=>by rw[h.cell 0,<-hC];rfl
   have qY:∀W,Blk W Bw C 149->W.cell? ⟨Bw,1,none⟩=some (.slice la line.length ar):=λW h=>by rw[h.cell 1,<-hC];rfl
   clear hC;go_loopw [8,9] (λr i wx=>∃k:Nat,k<=line.length/\i= .int .i64 (k:Nat)/\r= .bool (a4n (line.take k))/\RB w ⟨ax,ay,st,sw,sh,sg⟩ B2 base Bw C u5 en0 wx) (λ_ i _=>line.length-(intOf i).toNat)
   case atStart=>exact⟨0,Nat.zero_le _,rfl,rfl,nu⟩
   case round =>
    clear nu;obtain⟨k,hk,rfl,rfl,hI⟩:=hrel;have z1:=qY _ hI.box;by_cases cX:k<line.length
    ·have zc:(k:Int)<(line.length:Int):=oM
     obtain⟨pb,po,rfl,p0,p1⟩:=gG _ hI.out.below k cX;have eS:=c4t line k cX;obtain⟨r0,pF⟩:=zE (a4n (line.take k));rw[pF]at eS ⊢;obtain⟨⟨px,py⟩,i7⟩:∃p,line[k]=p:=⟨_,rfl⟩;rw[i7]at p0 p1 eS;simp only at p0 p1 eS;obtain⟨r1,cK⟩:=zE (a1j px py);rw[cK]at eS;replace cK:=Lib.hid cK;replace eS:=Lib.hid eS;clear i7 pF
     cases r0
     all_goals
      go_wp2_with (first|(go_at_call 90;refine(a5t cK.out _).mono ?_;rintro e w'⟨rfl,al⟩;obtain⟨p,rfl⟩:=a0c al;clear al)|fail);go_roundw
      case rel=>exact⟨k+1,oM,by go_num,by rw[eS.out];simp,hI.grown (a0p _ _)⟩
      case measure=>simp[intOf];omega
    ·obtain rfl:k=line.length:=oM
     rw[List.take_length];have iF:¬(line.length:Int)<(line.length:Int):=oM;obtain⟨r,hr⟩:=zE (a4n line);have bG:=aq.out;rw[hr]at bG ⊢;replace aq:=Lib.hid bG;clear bG
     cases r with
     |false =>
      go_wp2_with fail;refine wp_loop_rounds 1 ?_;rw[rounds_succ];by_cases h0:0<line.length
      ·have Sc:(0:Int)<(line.length:Int):=oM
       exact ydr
      ·have Sc:¬(0:Int)<(line.length:Int):=oM
       exact ydr
     |true =>
      have Ng:=λk hk=>c8i hr k hk
      replace hr:=Lib.hid hr;go_wp2_with fail;go_loopw [5,11] (λv i wx=>∃k:Nat,k<=line.length/\i= .int .i64 (k:Nat)/\RB w ⟨ax,ay,st,sw,sh,sg⟩ B2 base Bw C v (a6t ⟨ax,ay,st,sw,sh,sg⟩ id line en0 k) wx) (λ_ i _=>line.length-(intOf i).toNat)
      case atStart=>exact⟨0,Nat.zero_le _,rfl,hI⟩
      case round =>
       clear hI z1;obtain⟨k,hk,rfl,hI⟩:=hrel;have z1:=qY _ hI.box;by_cases cX:k<line.length
       ·have zc:(k:Int)<(line.length:Int):=oM
        obtain⟨pb,po,rfl,p0,p1⟩:=gG _ hI.out.below k cX;obtain⟨k2,eD⟩:=zE (min (k+1) (line.length-1));have zd:k2<line.length:=oM;have Sd:(k2:Int)<(line.length:Int):=oM;have Se:0<=(k2:Int):=oM;have CF:min ((k:Int)+1) ((line.length:Int)-1)=(k2:Int):=oM;obtain⟨Vb,Vc,EC,q0,q1⟩:=gG _ hI.out.below k2 zd;simp only[Option.some.injEq,Addr.mk.injEq,and_true]at EC;obtain⟨rfl,rfl⟩:=EC;have iR:=c4u ⟨ax,ay,st,sw,sh,sg⟩ line k k2 cX zd eD;have mj:=a8c ⟨ax,ay,st,sw,sh,sg⟩ id line en0 k;have sk:=Ng k cX;have so:=Ng k2 zd;rw[iR]at mj;rw[d6t hs sk so]at mj;have tU:=a5u hs sk;have gi:=a5u hs so;clear iR eD;obtain⟨⟨px,py⟩,i7⟩:∃p,line[k]=p:=⟨_,rfl⟩;obtain⟨⟨qx,qy⟩,tX⟩:∃p,line[k2]=p:=⟨_,rfl⟩;rw[i7]at p0 p1 sk mj tU;rw[tX]at q0 q1 so mj gi;clear i7 tX;obtain⟨⟨Sf,Sg⟩,Si,Sj⟩:=a2u.1 sk;obtain⟨⟨Sk,Sl⟩,Sn,Sq⟩:=a2u.1 so;simp only at p0 p1 q0 q1 Sf Sg Si Sj Sk Sl Sn Sq;clear sk so;obtain⟨i0,aT⟩:=zE (c1y ⟨ax,ay,st,sw,sh,sg⟩ px);obtain⟨j0,fC⟩:=zE (c1z ⟨ax,ay,st,sw,sh,sg⟩ py);obtain⟨i1,el⟩:=zE (c1y ⟨ax,ay,st,sw,sh,sg⟩ qx);obtain⟨j1,gC⟩:=zE (c1z ⟨ax,ay,st,sw,sh,sg⟩ qy);unfold a5c at tU gi mj;simp only at tU gi mj;rw[aT,fC]at tU;rw[el,gC]at gi;rw[aT,fC,el,gC]at mj;replace aT:=Lib.hid aT;replace fC:=Lib.hid fC;replace el:=Lib.hid el;replace gC:=Lib.hid gC;obtain⟨nk,kJ⟩:=zE (a6t ⟨ax,ay,st,sw,sh,sg⟩ id line en0 k);rw[kJ]at hI mj;clear kJ;replace mj:=Lib.hid mj;have mh:=d2l tU gi;obtain⟨d0,d1,d2,d3,d4,d5⟩:=e4c hI.out.sheet;go_upto_region 18 with fail;first|with_reducible refine a0h 14 zM zM ?_|with_reducible refine a0i 14 zM zM ?_
        simp only[zT];repeat(first|go_big_quiet_step ((go_at_call 92;exact Calls.grow_of (b7n ⟨ax,ay,st,sw,sh,sg⟩ _ _ _ _ _ (by first|with_reducible exact aT.out|with_reducible exact el.out) (by first|with_reducible exact fC.out|with_reducible exact gC.out) hs oM oM oM oM)))|quiet_step ((go_at_call 92;exact Calls.grow_of (b7n ⟨ax,ay,st,sw,sh,sg⟩ _ _ _ _ _ (by first|with_reducible exact aT.out|with_reducible exact el.out) (by first|with_reducible exact fC.out|with_reducible exact gC.out) hs oM oM oM oM))))
        refine wpQuiet_nil ?_;intro _ bh;obtain⟨p,bh⟩:=bh;subst bh;go_upto_region 19 with(first|(go_at_call 91;refine(d6u i0 j0 i1 j1 _ tU gi).mono ?_;rintro e w3⟨Nh,Ni,rfl,aV,xm,eC⟩)|fail);have Gc:RL w ⟨ax,ay,st,sw,sh,sg⟩ B2 base Bw C Nh (a7u (i0,j0) (i1,j1)) u5 nk w3:=⟨(hI.grown (a0p _ _)).grown (a0t eC),xm.mono (Nat.le_trans (Nat.le_trans hI.out.lb (a0p _ _).size) aV)⟩;clear xm eC aV hI p0 p1 q0 q1 d0 d1 d2 d3 d4 d5 z1 aT fC el gC tU gi;obtain⟨L,hL⟩:=zE (a7u (i0,j0) (i1,j1));rw[hL]at Gc mj mh;clear hL;obtain⟨l3,ED,rfl⟩:∃a cap,Nh= .slice a L.length cap:=by
         rcases Gc.line.2 with⟨rfl,h0⟩|⟨g,cap,cur,rfl,_⟩
         ·exact⟨none,0,by rw[h0]⟩
         ·exact⟨_,_,rfl⟩
        have Vd:(L.length:Int)<=200001:=oM;go_wp2_with fail;go_loopw [5,14] (λv i wx=>∃n:Nat,n<=L.length/\i= .int .i64 (n:Nat)/\RL w ⟨ax,ay,st,sw,sh,sg⟩ B2 base Bw C (.slice l3 L.length ED) L v (b8h ⟨ax,ay,st,sw,sh,sg⟩ id nk (L.take n)) wx) (λ_ i _=>L.length-(intOf i).toNat)
        case atStart=>exact⟨0,Nat.zero_le _,rfl,Gc⟩
        case round =>
         clear Gc;obtain⟨n,hn,rfl,hM⟩:=hrel;by_cases iN:n<L.length
         ·have Sr:(n:Int)<(L.length:Int):=oM
          have gd:=c8j ⟨ax,ay,st,sw,sh,sg⟩ id nk L n iN;obtain⟨a',aI,e',mD⟩:=b6f hM.line;simp only[Value.slice.injEq,true_and]at e';obtain⟨rfl,rfl⟩:=e';obtain⟨KB,KC,rfl,-,y0,y1⟩:=mD n iN;obtain⟨⟨dx,dy⟩,j7⟩:∃d,L[n]=d:=⟨_,rfl⟩;rw[j7]at y0 y1 gd;simp only at y0 y1;clear j7 mD;obtain⟨en,jT⟩:=zE (b8h ⟨ax,ay,st,sw,sh,sg⟩ id nk (L.take n));rw[jT]at hM gd;clear jT;have bq:=hM.way.out.ent.dots (dx,dy) id;have ze:=hM.way.out.ent.put ((dx,dy),id);simp only at bq;rw[<-gd]at bq ze;obtain⟨Vf,rB⟩:=zE (b8h ⟨ax,ay,st,sw,sh,sg⟩ id nk (L.take (n+1)));rw[rB]at bq ze gd;replace rB:=Lib.hid rB;obtain⟨d0,d1,d2,d3,d4,d5⟩:=e4c hM.way.out.sheet;have z0:=pN _ hM.way.box;obtain⟨on,dp⟩:=zE (onS ⟨ax,ay,st,sw,sh,sg⟩ dx dy);rw[dp]at bq
          cases on with
          |false =>
           simp only[Bool.false_eq_true,if_false]at bq;replace bq:=Lib.hid bq;have aM:a9q ⟨ax,ay,st,sw,sh,sg⟩ en ((dx,dy),id)=en:=by
            unfold a9q c9q;simp[dp]
           rw[aM]at gd;replace dp:=Lib.hid dp;replace gd:=Lib.hid gd;clear aM;go_wp2_with fail;refine e3o λp=> ?_
           go_wp2_with fail;go_roundw
           case rel=>exact⟨n+1,oM,by go_num,by rw[rB.out,gd.out];exact hM.grown (a0p _ _)⟩
           case measure=>simp[intOf];omega
          |true =>
           simp only[if_true]at bq;replace bq:=Lib.hid bq;replace dp:=Lib.hid dp;replace gd:=Lib.hid gd;go_wp2_with fail;refine e3o λp=> ?_
           go_wp2_with fail;refine e3p λp=> ?_
           refine(λ(h:∀W,W=_->wpList _ _ _ _ _ W)=>h _ rfl) (λW9 fP=> ?_);have zg:RL w ⟨ax,ay,st,sw,sh,sg⟩ B2 base Bw C (.slice (some ⟨KB,KC,none⟩) L.length ED) L u5 en W9:=by
            rw[fP];exact hM.grown (a0p _ _)
           clear fP hM y0 y1 d0 d1 d2 d3 d4 d5 z0;have AB:=zg.way.out.ent.len hs;have jZ:=zg.way.out.ent.fits hs;go_wp2_with (first|(go_at_call 94;refine(d2e _ (a1k 2 en) dx dy 2 id base _ zg.way.out.row zg.way.out.lb oM jZ).mono ?_;rintro e w9⟨v9,rfl,bQ,bD⟩)|fail);rw[<-bq.out]at bQ;go_roundw
           case rel=>exact⟨n+1,oM,by go_num,by rw[rB.out];exact zg.put bD bQ ze⟩
           case measure=>simp[intOf];omega
         ·obtain rfl:n=L.length:=oM
          have iF:¬(L.length:Int)<(L.length:Int):=oM;rw[List.take_length]at hM;go_wp2_with fail;go_roundw
          case rel=>exact⟨k+1,oM,by go_num,by rw[mj.out];exact hM.way⟩
          case measure=>simp[intOf];omega
       ·obtain rfl:k=line.length:=oM
        have iF:¬(line.length:Int)<(line.length:Int):=oM;exact ydr
  ·obtain rfl:t=ws.length:=oM
   rw[List.take_of_length_le vM]at hO;go_wp2_with fail;go_ret;exact⟨_,base,rfl,aG▸hO.wb,hO.row,aG▸hO.below⟩
theorem d2m (id:Int)(ps:List a0l)(p:a0l):b4u id (ps++[p])=a6b (b4u id ps) ⟨p.1,p.2,3,id⟩:=by
 unfold b4u;rw[List.foldl_append];rfl
theorem d2n (id:Int)(ps:List a0l)(n:Nat)(h:n<ps.length):b4u id (ps.take (n+1))=a6b (b4u id (ps.take n)) ⟨ps[n].1,ps[n].2,3,id⟩:=by
 rw[List.take_add_one,List.getElem?_eq_getElem h,Option.toList_some,d2m]
theorem d7m {s:Sh}{x y i j:Int}{b:Bool}(h:ofS s x y=(i,j,b))(w:Wd) :
 Zc prog 95 #[shV s,.agg #[.int .i64 x,.int .i64 y]] w (.tuple #[.int .i64 i,.int .i64 j,.bool b]):=by
 have h2:=d9b s x y w;rw[h]at h2;exact h2
theorem c1l {cls:Bw}{x y:Int}{m:Nat}{b:Bool}(hb:e1s m x y=b)(hm:m<7)(dD:(b1q cls.data.toList).tmod 7=m)(fF:cls.size<=1048576)(w:Wd) :
 Calls prog 96 #[.string cls,.int .i64 x,.int .i64 y] w λe w'=>e= .returned (.bool b)/\w=w':=by
 rw[<-hb];exact c8h cls x y m hm dD fF w
theorem e4o {W:Wd}{B:Nat}{a b c d e f:Int}(h:Blk W B (shC ⟨a,b,c,d,e,f⟩) 28):W.cell? ⟨B,0,none⟩=some (.int .i64 a)/\W.cell? ⟨B,1,none⟩=some (.int .i64 b)/\W.cell? ⟨B,2,none⟩=some (.int .i64 c)/\W.cell? ⟨B,3,none⟩=some (.int .i64 d)/\W.cell? ⟨B,4,none⟩=some (.int .i64 e)/\W.cell? ⟨B,5,none⟩=some (.int .i64 f) :=
 ⟨h.cell 0,h.cell 1,h.cell 2,h.cell 3,h.cell 4,h.cell 5⟩
theorem c8k (i j:Int)(t u:Nat)(hu:u<3):a9v i j (3*t+u)=(i+((u:Int)-1),j+((t:Int)-1)):=by
 unfold a9v;rw[Int.tmod_eq_emod_of_nonneg oM,Int.tdiv_eq_ediv_of_nonneg oM];congr 1 <;> omega
section
variable {s:Sh}{pl:Array Value}{w W W':Wd}{B3 B4 base:Nat}{lv:Vu}{l:List a0l}
theorem PX.appended {g cap:Nat}{p:a0l}(h:PX s pl w B3 B4 base lv l W)(hg:W.grownBy W' lv.ownBlock)(aj:W'.ownsRow base 26 2 (.slice (some ⟨g,0,none⟩) (l.length+1) cap) (l.length+1) (l.flatMap a6j++a6j p)) :
 PX s pl w B3 B4 base (.slice (some ⟨g,0,none⟩) (l.length+1) cap) (l++[p]) W':=by
 have av:∀B,B<base->lv.ownBlock≠some B:=λB hB e=>by have:=(h.row.lt _ e).1;omega
 refine⟨h.sheet.kept hg (av _ h.l3),h.place.kept hg (av _ h.l4),h.l3,h.l4,h.lw,?_,h.below.grown hg h.below.size (λr e=>by have:=(h.row.lt _ e).1;have:=h.lw;omega),Nat.le_trans h.lb hg.size⟩;rw[List.length_append,List.flatMap_append];simpa using aj
end
theorem PY.appended {s:Sh}{pl:Array Value}{w W W':Wd}{B3 B4 base Bd:Nat}{d:Nat->Bool}{lv:Vu}{l:List a0l}{g cap:Nat}{p:a0l}(h:PY s pl w B3 B4 base Bd d lv l W)(hg:(W.alloc (.cells (a6j p).toArray 26)).grownBy W' lv.ownBlock)(aj:W'.ownsRow base 26 2 (.slice (some ⟨g,0,none⟩) (l.length+1) cap) (l.length+1) (l.flatMap a6j++a6j p)) :
 PY s pl w B3 B4 base Bd d (.slice (some ⟨g,0,none⟩) (l.length+1) cap) (l++[p]) W' :=
 ⟨(h.px.alloc _).appended hg aj,(h.box.alloc _).kept hg (b9p (h.px.alloc (.cells (a6j p).toArray 26)).row (h.box.alloc _) jM)⟩
section
variable {s:Sh}{pl:Array Value}{w W W':Wd}{B3 B4 base:Nat}{lv:Vu}{l:List a0l}{v v':Vu}{ds CM:List Dt}
end
theorem d2o (s:Sh)(id x y wt di num i j:Int)(b:Bool)(cls name:Bw)(w:Wd)(cN:ofS s x y=(i,j,b))(aK:b=false\/num<1\/999<num) :
 Zc prog 41 #[shV s,.agg (plC id x y wt di cls name),.int .i64 num] w (.tuple #[.slice none 0 0,.bool false]):=by
 obtain⟨ax,ay,st,sw,sh,sg⟩:=s;replace cN:=Lib.hid cN
 cases b with
 |false =>
  exact ycw
 |true =>
  by_cases h1:num<1
  ·exact ycw
  ·have h2:999<num:=by rcases aK with h|h|h;cases h;exact absurd h h1;exact h
   exact ycw
theorem c8l (s:Sh)(id x y wt di i j:Int)(n m:Nat)(cls name:Bw)(w:Wd)(cN:ofS s x y=(i,j,true))(hid:fits id)
 (fE:1<=n) (eP:n<=999) (fF:cls.size<=1048576) (hm:m<7) (dD:(b1q cls.data.toList).tmod 7=m) :
 Calls prog 41 #[shV s,.agg (plC id x y wt di cls name),.int .i64 n] w λe w'=>Below w.heap.size w w' /\
  (((∀p∈a1y i j (a5e m) (a3q n) (a1f n).size,onS s p.1 p.2=true)/\∃v base,e= .returned (.tuple #[v,.bool true])/\w.heap.size<=base/\w'.ownsRow base 54 4 v (b4u id (a1y i j (a5e m) (a3q n) (a1f n).size)).length ((b4u id (a1y i j (a5e m) (a3q n) (a1f n).size)).flatMap a2k)) \/
  ((∃p∈a1y i j (a5e m) (a3q n) (a1f n).size,onS s p.1 p.2=false)/\e= .returned (.tuple #[.slice none 0 0,.bool false]))):=by
 obtain⟨aB,dp⟩:=b1v cN;have hs:=a4l aB;obtain⟨ax,ay,st,sw,sh,sg⟩:=s;have tH:=hs;obtain⟨s0,s1,u0,u1,v0,v1,a0,a1,b0,b1⟩:=tH;simp only at s0 s1 u0 u1 v0 v1 a0 a1 b0 b1;have ee:(0<=i/\i<=80)/\(0<=j/\j<=80):=by
  exact ykt
 obtain⟨⟨i0,i1⟩,j0,j1⟩:=ee;have Vg:=Lib.hid hs;clear dp aB hs s0 s1 a0 a1 b0 b1;replace cN:=Lib.hid cN;have Vh:¬(n:Int)<1:=oM;have Vi:¬999<(n:Int):=oM;have dN:=a8z n eP;have DW:=b3g n;obtain⟨ip,FL,bM,aW,bF⟩:=info_parts b6g;have zh:=λW=>b4d (n+1) n oM eP W
 have pQ:=b2s n;have Cg:=a5h n;have KD:=a3j 2 n oM;have KE:0<(Lib.decDigits n).length:=by rw[Lib.decDigits];split <;> simp
 have mf:=λW=>c1g (a7s n) pQ oM oM W
 have Nj:(⟨(a8m (a7s n) (a7s n).size).toArray⟩:ByteArray)=a1f n:=rfl;rw[Nj]at mf;have vT:=a4w n;obtain⟨D,hD⟩:=zE (a3q n);rw[hD]at vT ⊢;obtain⟨cells,mP⟩:=zE (a1f n);have EE:∀k (hk:k<cells.size),∀W,Zc prog 99 #[.int .u8 (cells[k]).toNat] W (.agg #[.bool (D k 0),.bool (D k 1),.bool (D k 2),.bool (D k 3),.bool (D k 4),.bool (D k 5)]):=by
  subst mP;intro k hk W;rw[vT k hk 0,vT k hk 1,vT k hk 2,vT k hk 3,vT k hk 4,vT k hk 5];exact e1r _ (DW k hk) W
 rw[mP]at dN mf ⊢;obtain⟨txt,EF⟩:=zE (a7s n);rw[EF]at zh mf;clear DW vT Nj Cg KD KE pQ hD mP EF;go_enter func41,ntmps41;go_wp2_with (first|(go_at_call 95;refine(d7m cN.out _).mono ?_;rintro e w'⟨rfl,al⟩;obtain⟨p,rfl⟩:=a0c al;clear al)|fail);refine a0m (λW0 eA=> ?_);have jq:PX ⟨ax,ay,st,sw,sh,sg⟩ (plC id x y wt di cls name) w w.heap.size (w.heap.size+1) W0.heap.size (.slice none 0 0) [] W0:=by
  have hB:Below w.heap.size w W0:=by
   rw[eA];exact zC
  have k3:Blk W0 w.heap.size (shC ⟨ax,ay,st,sw,sh,sg⟩) 28:=by
   rw[eA];exact((Blk.new w _ _).alloc _).grow _
  have k4:Blk W0 (w.heap.size+1) (plC id x y wt di cls name) 66:=by
   rw[eA];have h:=Blk.new (w.alloc (.cells (shC ⟨ax,ay,st,sw,sh,sg⟩) 28)) (plC id x y wt di cls name) 66;rw[World.size_alloc]at h;exact h.grow _
  exact⟨k3,k4,k3.lt,k4.lt,hB.size,World.ownsRow_nil _ _ _ _,hB,yR _⟩
 clear eA;obtain⟨base,aD⟩:=zE W0.heap.size;obtain⟨B4,bZ⟩:=zE (w.heap.size+1);obtain⟨B3,aN⟩:=zE w.heap.size;rw[aD,bZ,aN]at jq;rw[bZ,aN];replace aN:=Lib.hid aN;clear aD bZ;go_loopw [11,12] (λv yy wr=>∃t:Nat,t<=3/\yy= .int .i64 ((t:Int)-1)/\PX ⟨ax,ay,st,sw,sh,sg⟩ (plC id x y wt di cls name) w B3 B4 base v (a4g i j (a5e m) (3*t)) wr) (λ_ yy _=>3-(intOf yy+1).toNat)
 case atStart=>exact⟨0,oM,rfl,jq⟩
 case round =>
  clear jq;obtain⟨t,ht,rfl,hP⟩:=hrel;by_cases ag:t<3
  ·have aA:(t:Int)-1<=1:=oM
   go_wp2_with fail;go_loopw [11,13] (λv xx wr=>∃u:Nat,u<=3/\xx= .int .i64 ((u:Int)-1)/\PX ⟨ax,ay,st,sw,sh,sg⟩ (plC id x y wt di cls name) w B3 B4 base v (a4g i j (a5e m) (3*t+u)) wr) (λ_ xx _=>3-(intOf xx+1).toNat)
   case atStart=>exact⟨0,oM,rfl,hP⟩
   case round =>
    clear hP;obtain⟨u,hu,rfl,hP⟩:=hrel;by_cases Nk:u<3
    ·have Ss:(u:Int)-1<=1:=oM
     have rC:=d2a m t u hm ag Nk;have bG:a4g i j (a5e m) (3*t+(u+1))=a4g i j (a5e m) (3*t+u)++(if a5e m (3*t+u)then [(i+((u:Int)-1),j+((t:Int)-1))]else []):=by
      rw[<-c8k i j t u Nk];rfl
     obtain⟨b,hb⟩:=zE (a5e m (3*t+u));rw[hb]at rC bG;replace rC:=Lib.hid rC;clear hb;obtain⟨l,hl⟩:=zE (a4g i j (a5e m) (3*t+u));have im:l.length<=100:=by have:=a5o i j (a5e m) (3*t+u);rw[hl]at this;omega
     rw[hl]at hP bG;clear hl;have z2:=hP.place.cell 3;replace z2:wr.cell? ⟨B4,3,none⟩=some (.string cls):=z2;have ae:=hP.row;have hle:=hP.lb
     cases b with
     |false =>
      replace bG:=Lib.hid bG;go_wp2_with (first|(go_at_call 96;refine(c1l rC.out hm dD fF _).mono ?_;rintro e w'⟨rfl,rfl⟩)|fail);go_roundw
      case rel=>exact⟨u+1,oM,by go_num,by rw[bG.out];simpa using hP⟩
      case measure=>simp[intOf];omega
     |true =>
      replace bG:=Lib.hid bG;have w1:IntKind.i64.wrap (i+((u:Int)-1))=i+((u:Int)-1):=a0j oM oM;have w2:IntKind.i64.wrap (j+((t:Int)-1))=j+((t:Int)-1):=a0j oM oM;go_wp2_with (first
       |(go_at_call 96;refine(c1l rC.out hm dD fF _).mono ?_;rintro e w'⟨rfl,rfl⟩)
       |(at_builtin;refine wpList_append_lies _ qM _ _ _ qM base 26 ip _ 2 16 underlying147 FL bM aW bF qM oM u11 l.length _ qM ((hP.alloc _).row) ⟨wr.heap.size,0,none⟩ 1 1 (a6j (i+((u:Int)-1),j+((t:Int)-1))) qM qM (d9s (Blk.new _ _ _)) (by simp[Value.oneCell']) oM oK oM (hP.alloc _).lb _ rfl ?_;intro g cap W2 aj bJ bj lG))
      go_roundw
      case rel=>exact⟨u+1,oM,by go_num,by rw[bG.out];exact(hP.alloc _).appended bJ aj⟩
      case measure=>simp[intOf];omega
    ·obtain rfl:u=3:=oM
     go_wp2_with fail;go_roundw
     case rel=>exact⟨t+1,oM,by go_num,by rw[show 3*(t+1)=3*t+3 from by omega];exact hP⟩
     case measure=>simp[intOf];omega
  ·obtain rfl:t=3:=oM
   rw[show 3*3=9 from rfl]at hP;obtain⟨l9,mN⟩:=zE (a4g i j (a5e m) 9);have i7:a1y i j (a5e m) D cells.size=a2r i j D l9 cells.size:=by unfold a1y;rw[mN]
   have h9:l9.length<=9:=by rw[<-mN];exact a5o i j (a5e m) 9
   rw[mN]at hP;replace i7:=Lib.hid i7;clear mN dD hm;go_wp2_with (first
    |(go_at_call 98;refine(zh _).mono ?_;rintro e w1⟨rfl,aw⟩)
    |(go_at_call 97;refine(mf _).mono ?_;rintro e w2⟨rfl,az⟩))
   replace hP:=(hP.up aw).up az;clear aw az zh mf;go_loopw [11,16] (λv kk wr=>∃k:Nat,k<=cells.size/\kk= .int .i64 (k:Nat)/\PX ⟨ax,ay,st,sw,sh,sg⟩ (plC id x y wt di cls name) w B3 B4 base v (a2r i j D l9 k) wr) (λ_ kk _=>cells.size-(intOf kk).toNat)
   case atStart=>exact⟨0,Nat.zero_le _,rfl,hP⟩
   case round =>
    clear hP;obtain⟨k,hk,rfl,hP⟩:=hrel;by_cases cX:k<cells.size
    ·have zc:(k:Int)<(cells.size:Int):=oM
     have bq:=EE k cX;obtain⟨c,hc⟩:=zE ((cells[k]'cX).toNat);rw[hc]at bq;have bG:a2r i j D l9 (k+1)=a4x i j k (D k) (a2r i j D l9 k) 6:=rfl;obtain⟨l,hl⟩:=zE (a2r i j D l9 k);have im:l.length<=100:=by have:=a4o i j D l9 k;rw[hl]at this;omega
     rw[hl]at hP bG;obtain⟨d,hd⟩:=zE (D k);rw[hd]at bG bq;replace bG:=Lib.hid bG;clear hl hd;go_wp2_with (first
      |(refine a0k qM 9 _ _ qM cells .i64 (k:Nat) qM qM underlying9 c oM oM (by rw[<-hc];rfl) ?_)
      |(go_at_call 99;refine(bq _).mono ?_;rintro e w3⟨rfl,aV⟩))
     have hY:PY ⟨ax,ay,st,sw,sh,sg⟩ (plC id x y wt di cls name) w B3 B4 base w3.heap.size d u11 l (w3.alloc (.cells #[.bool (d 0),.bool (d 1),.bool (d 2),.bool (d 3),.bool (d 4),.bool (d 5)] 126)):=⟨(hP.up aV).alloc _,Blk.new _ _ _⟩;clear aV hP bq hc;obtain⟨Bd,ud⟩:=zE w3.heap.size;obtain⟨W4,cQ⟩:=zE (w3.alloc (.cells #[.bool (d 0),.bool (d 1),.bool (d 2),.bool (d 3),.bool (d 4),.bool (d 5)] 126));rw[ud,cQ]at hY;rw[ud,cQ];clear ud cQ;go_loopw [11,18] (λv nn wr=>∃q:Nat,q<=6/\nn= .int .i64 (q:Nat)/\PY ⟨ax,ay,st,sw,sh,sg⟩ (plC id x y wt di cls name) w B3 B4 base Bd d v (a4x i j k d l q) wr) (λ_ nn _=>6-(intOf nn).toNat)
     case atStart=>exact⟨0,oM,rfl,hY⟩
     case round =>
      clear hY;obtain⟨q,hq,rfl,hY⟩:=hrel;by_cases St:q<6
      ·have Su:(q:Int)<6:=oM
       have gi:a4x i j k d l (q+1)=a4x i j k d l q++(if d q then [(i+3+3*(k:Int)+(q:Int).tdiv 3,j+1-(q:Int).tmod 3)]else []):=rfl;have zq:=hY.cell q St;obtain⟨l2,du⟩:=zE (a4x i j k d l q);have Sv:l2.length<=200:=by have:=b0c i j k d l q;rw[du]at this;omega
       rw[du]at hY gi;clear du;have KF:0<=(q:Int).tdiv 3/\(q:Int).tdiv 3<=2:=by rw[Int.tdiv_eq_ediv_of_nonneg oM];omega
       have KG:0<=(q:Int).tmod 3/\(q:Int).tmod 3<=2:=by rw[Int.tmod_eq_emod_of_nonneg oM];omega
       have Sw:(q:Int) % 3=(q:Int).tmod 3:=by rw[Int.tmod_eq_emod_of_nonneg oM]
       obtain⟨b,hb⟩:=zE (d q);rw[hb]at zq gi;clear hb
       cases b with
       |false =>
        replace gi:=Lib.hid gi;go_wp2_with fail;go_roundw
        case rel=>exact⟨q+1,oM,by go_num,by rw[gi.out];simpa using hY⟩
        case measure=>simp[intOf];omega
       |true =>
        obtain⟨a3,wN⟩:=zE ((q:Int).tdiv 3);obtain⟨r3,xm⟩:=zE ((q:Int).tmod 3);rw[wN]at KF gi;rw[xm]at KG Sw gi;obtain⟨KF,Vj⟩:=KF;obtain⟨KG,Vk⟩:=KG;replace gi:=Lib.hid gi;have v1:IntKind.i64.wrap (3*(k:Int))=3*(k:Int):=a0j oM oM;have v2:IntKind.i64.wrap (i+3)=i+3:=a0j oM oM;have v3:IntKind.i64.wrap (i+3+3*(k:Int))=i+3+3*(k:Int):=a0j oM oM;have v4:IntKind.i64.wrap (i+3+3*(k:Int)+a3)=i+3+3*(k:Int)+a3:=a0j oM oM;have v5:IntKind.i64.wrap (j+1)=j+1:=a0j oM oM;have v6:IntKind.i64.wrap (j+1-r3)=j+1-r3:=a0j oM oM;have v7:IntKind.i64.wrap a3=a3:=a0j oM oM;have v8:IntKind.i64.wrap r3=r3:=a0j oM oM;go_wp2_with (first
         |(at_builtin;refine wpList_append_lies _ qM _ _ _ qM base 26 ip _ 2 16 underlying147 FL bM aW bF qM oM u11 l2.length _ qM ((hY.px.alloc _).row) ⟨wr.heap.size,0,none⟩ 1 1 (a6j (i+3+3*(k:Int)+a3,j+1-r3)) qM qM (d9s (Blk.new _ _ _)) (by simp[Value.oneCell']) oM oK oM (hY.px.alloc _).lb _ rfl ?_;intro g cap W2 aj bJ bj lG))
        go_roundw
        case rel=>exact⟨q+1,oM,by go_num,by rw[gi.out];exact hY.appended bJ aj⟩
        case measure=>simp[intOf];omega
      ·obtain rfl:q=6:=oM
       go_wp2_with fail;go_roundw
       case rel=>exact⟨k+1,oM,by go_num,by rw[bG.out];exact hY.px⟩
       case measure=>simp[intOf];omega
    ·obtain rfl:k=cells.size:=oM
     have aY:¬(cells.size:Int)<(cells.size:Int):=oM;obtain⟨l,hl⟩:=zE (a2r i j D l9 cells.size);have im:l.length<=100:=by have:=a4o i j D l9 cells.size;rw[hl]at this;omega
     rw[hl]at hP;have aO:=Lib.hid (i7.out.trans hl);clear hl EE i7;obtain⟨la,ar,rfl⟩:∃a cap,u11= .slice a l.length cap:=by
      rcases hP.row.2 with⟨rfl,h0⟩|⟨g,cap,cur,rfl,_⟩
      ·exact⟨none,0,by rw[h0]⟩
      ·exact⟨_,_,rfl⟩
     go_wp2_with fail;go_loopw [19,20] (λv kk wr=>∃k:Nat,k<=l.length/\kk= .int .i64 (k:Nat)/\(∀p∈l.take k,onS ⟨ax,ay,st,sw,sh,sg⟩ p.1 p.2=true)/\PZ ⟨ax,ay,st,sw,sh,sg⟩ (plC id x y wt di cls name) w B3 B4 base (.slice la l.length ar) l v (b4u id (l.take k)) wr) (λ_ kk _=>l.length-(intOf kk).toNat)
     case atStart=>exact⟨0,Nat.zero_le _,rfl,by simp,hP,World.ownsRow_nil _ _ _ _⟩
     case round =>
      clear hP;obtain⟨k,hk,rfl,ah,hZ⟩:=hrel;by_cases cX:k<l.length
      ·have zc:(k:Int)<(l.length:Int):=oM
       have bG:=d2n id l k cX;have ig:=a4p id (l.take k);rw[List.length_take]at ig;have iM:l[k]∈l:=List.getElem_mem cX;have gH:onS ⟨ax,ay,st,sw,sh,sg⟩ l[k].1 l[k].2=true->∀p∈l.take (k+1),onS ⟨ax,ay,st,sw,sh,sg⟩ p.1 p.2=true:=λh p hp=>by
        rw[List.take_add_one,List.getElem?_eq_getElem cX,Option.toList_some]at hp;rcases List.mem_append.1 hp with hp|hp
        ·exact ah p hp
        ·rw[List.mem_singleton.1 hp]
         exact h
       have jZ:∀d∈b4u id (l.take k),fits d.x/\fits d.y:=λd hd=>by
        have h8:=a5y.1 (b6u ah d hd);simp only at h8;exact⟨⟨oM,oM⟩,oM,oM⟩
       obtain⟨a',aI,e',mD⟩:=b6f hZ.px.row;simp only[Value.slice.injEq,true_and]at e';obtain⟨rfl,rfl⟩:=e';obtain⟨KB,KC,rfl,-,y0,y1⟩:=mD k cX;obtain⟨⟨dx,dy⟩,j7⟩:∃d,l[k]=d:=⟨_,rfl⟩;rw[j7]at y0 y1 bG iM gH;simp only at y0 y1 gH;clear j7 mD;obtain⟨d0,d1,d2,d3,d4,d5⟩:=e4o hZ.px.sheet;have z0:=hZ.px.place.cell 0;replace z0:wr.cell? ⟨B4,0,none⟩=some (.int .i64 id):=z0;obtain⟨ds,F5⟩:=zE (b4u id (l.take k));rw[F5]at hZ bG ig jZ;clear F5;obtain⟨on,dp⟩:=zE (onS ⟨ax,ay,st,sw,sh,sg⟩ dx dy);rw[dp]at gH;have wA:=Lib.hid dp;clear dp
       cases on with
       |false =>
        clear gH ah;go_wp2_with fail;refine e3q λp=> ?_
        go_wp2_with fail;go_ret2;rw[aO.out];exact⟨below_growBy' (aN.out▸hZ.px.below) (Nat.le_trans hZ.px.lw hZ.px.lb) _,.inr ⟨⟨_,iM,wA.out⟩,rfl⟩⟩
       |true =>
        have EG:=Lib.hid (gH rfl);clear gH ah;replace bG:=Lib.hid bG;go_wp2_with fail;refine e3q λp=> ?_
        go_wp2_with fail;refine e3p λp=> ?_
        refine(λ(h:∀W,W=_->wpList _ _ _ _ _ W)=>h _ rfl) (λW9 fP=> ?_);have KH:PZ ⟨ax,ay,st,sw,sh,sg⟩ (plC id x y wt di cls name) w B3 B4 base (.slice (some ⟨KB,KC,none⟩) l.length ar) l u19 ds W9:=by
         rw[fP];exact hZ.grown (a0p _ _)
        clear fP hZ y0 y1 d0 d1 d2 d3 d4 d5 z0;go_wp2_with (first|(go_at_call 94;refine(d2e _ ds dx dy 3 id base _ KH.out KH.px.lb oM jZ).mono ?_;rintro e w9⟨v9,rfl,bQ,bD⟩)|fail);rw[<-bG.out]at bQ;go_roundw
        case rel=>exact⟨k+1,oM,by go_num,EG.out,KH.put bD bQ⟩
        case measure=>simp[intOf];omega
      ·obtain rfl:k=l.length:=oM
       rw[List.take_length]at ah hZ;go_wp2_with fail;go_ret2;rw[aO.out];exact⟨aN.out▸hZ.px.below,.inl ⟨ah,_,base,rfl,aN.out▸hZ.px.lw,hZ.out⟩⟩
end
section
open Go Go.RowKit Go.Shelf Go.Lib
section
variable {P:Program}{α:Type}{E:El α}{st:Td}
theorem El.allG (hE:E.Ok)(hI:E.In P st){ops:Array Oper}{rest:List Oper}{o:Oper}{a:Act}{w:Wd}{Q:Exit->Act->World->Prop}(dI:o.guard=none)(s x:Operand)
 (ho:o.op= .call { callee:= .builtin .append,args:= #[s,x],argTypes:= #[st,st] }) (base:Nat) {v:Vu} (hs:a.eval s=v) (l:List α) (hv:w.ownsRow base E.t E.s v l.length (l.flatMap E.enc)) {xv:Vu} (l2:List α) (dH:a.eval x=xv) {n0:Nat} (hx:Lst E n0 w xv l2) (hf:Frm xv l2.length) (hl:l.length+l2.length<=100000) (hb:base<=w.heap.size)
 (h:∀v' w',w'.ownsRow base E.t E.s v' (l++l2).length ((l++l2).flatMap E.enc)->w.grownBy w' v.ownBlock->Below base w w'->(v'.ownBlock=v.ownBlock\/v'.ownBlock=some w.heap.size)->wpList P ops Q rest (a.put o.dst v') w') :
 wpList P ops Q (o::rest) a w:=by
 obtain⟨v',w',hr,h2,h3,h4,h5⟩:=El.append_all hE hI w base v xv l l2 o.type hv hx hf hl hb;refine wpList_plain dI λK hK=> ?_
 unfold Oper.wp execOp;simp only[ho,resolve,invoke,builtin,Sem.run_bind,Sem.run_pure,Result.andThen_ok,List.map_toArray,List.map_cons,List.map_nil,hs,dH,hr];exact hK _ _ (h v' w' h2 h3 h4 h5)
end
theorem b0q (s:Sh)(id x y wt di num:Int)(cls name:Bw)(w:Wd)(hid:fits id)(fF:cls.size<=1000) :
 Calls prog 41 #[shV s,.agg (plC id x y wt di cls name),.int .i64 num] w λe w'=>∃v,e= .returned (.tuple #[v,.bool (plF s x y id cls num).1])/\(Lst dtE w'.heap.size w' v (plF s x y id cls num).2/\Frm v (plF s x y id cls num).2.length/\Dts w'.heap.size w' v (plF s x y id cls num).2)/\Below w.heap.size w w':=by
 obtain⟨⟨i,j,b⟩,cN⟩:∃p,ofS s x y=p:=⟨_,rfl⟩;by_cases hr:b=false\/num<1\/999<num
 ·rw[d0h cN hr]
  refine(d2o s id x y wt di num i j b cls name w cN hr).mono ?_;rintro e w'⟨rfl,hb⟩;exact⟨_,rfl,⟨Lst.nil _ _ _,.inl rfl,.inl ⟨rfl,rfl⟩⟩,hb⟩
 ·obtain rfl:b=true:=by cases b;exact absurd (.inl rfl) hr;rfl
  obtain⟨n,rfl⟩:∃n:Nat,num=n:=⟨num.toNat,oM⟩;rw[d0i cN oM oM];unfold b9v;rw[Int.toNat_natCast];obtain⟨hm,dD⟩:=d7f cls;have hs:=a4l (b1v cN).1;have aO:=b0y i j (a5e (plM cls)) n oM;refine(c8l s id x y wt di i j n (plM cls) cls name w cN hid oM oM oM hm dD).mono ?_;rintro e w'⟨hb,⟨h,v,base,rfl,-,ae⟩|⟨⟨p,hp,h⟩,rfl⟩⟩
  ·rw[if_pos (List.all_eq_true.2 h)]
   exact⟨v,rfl,⟨a0d (E:=dtE) a4t ae (by have:=a4p id (a1y i j (a5e (plM cls)) (a3q n) (a1f n).size);simp only;omega),a1u ae,d8g hs oM h ae⟩,hb⟩
  ·rw[if_neg (λhc=>by have:=List.all_eq_true.1 hc p hp;rw[h]at this;cases this)]
   exact⟨_,rfl,⟨Lst.nil _ _ _,.inl rfl,.inl ⟨rfl,rfl⟩⟩,hb⟩
structure MapOd (W:Wd)(wv pv:Vu)(l:List Pc)(ws:List Wy):Prop where
 p:Lst plE W.heap.size W pv l
 frm:Frm pv l.length
 len:l.length<=100
 ok:∀p∈l,PcOk p/\p.cls.size<=1000
 w:Wys W.heap.size W wv ws
 wl:ws.length<=100
 wo:∀y∈ws,fits y.id/\y.line.length<=100
theorem MapOd.up {W W':Wd}{wv pv:Vu}{l:List Pc}{ws:List Wy}(h:MapOd W wv pv l ws)(hb:Below W.heap.size W W'):MapOd W' wv pv l ws :=
 ⟨h.p.up hb,h.frm,h.len,h.ok,h.w.up hb hb.size,h.wl,h.wo⟩
theorem MapOk.od {W:Wd}{wv pv:Vu}{l:List Pc}{ws:List Wy}(h:MapOk W wv pv l ws):MapOd W wv pv l ws :=
 ⟨h.p,h.frm,by have:=h.len;omega,λp hp=>⟨h.ok.ok p hp,h.ok.cl p hp⟩,h.w,h.wl,h.wo⟩
structure OdR (n1:Nat)(S:BS)(W:Wd)(wv pv:Vu)(nw:Nat)(l:List Pc):Prop where
 tw:TW S W
 w:SL S W 149 wv nw
 nw:nw<=100
 row:W.ownsRow n1 66 7 pv l.length (l.flatMap plE.enc)
 low:∀b,S b->n1<=b
 len:l.length<=100
 ok:∀p∈l,PcOk p/\p.cls.size<=1000
theorem OdR.same {n1:Nat}{S:BS}{W W':Wd}{wv pv:Vu}{nw:Nat}{l:List Pc}(h:OdR n1 S W wv pv nw l)(hs:∀b,n1<=b->b<W.heap.size->W'.heap[b]? =W.heap[b]?):OdR n1 S W' wv pv nw l :=
 { h with tw:=h.tw.of_same λb hb=>hs b (h.low b hb) (h.tw.lt hb),w:=h.w.mono (λ_ h=>h) λb c e hb hc=>⟨c,(hs b (h.low b hb) (h.tw.lt hb)).trans hc,rfl⟩,row:=c6b h.row hs }
theorem OdR.up {n1:Nat}{S:BS}{W W':Wd}{wv pv:Vu}{nw:Nat}{l:List Pc}(h:OdR n1 S W wv pv nw l)(hb:Below W.heap.size W W'):OdR n1 S W' wv pv nw l:=h.same λb _ h2=>hb.block b h2
theorem OdR.map {n1:Nat}{S:BS}{W:Wd}{wv pv:Vu}{nw:Nat}{l:List Pc}(h:OdR n1 S W wv pv nw l):∃ws,MapOd W wv pv l ws:=by
 obtain⟨ws,h1,h2,h3⟩:=b4a h.tw h.w;exact⟨ws,a0d a4f h.row (by have:=h.len;omega),a1u h.row,h.len,h.ok,h2,by rw[h1];exact h.nw,h3⟩
theorem OdR.of {n0 n1:Nat}{S:BS}{W W':Wd}{ev fv wv pv:Vu}{ne nf nw ne' nf' nw':Nat}{l l':List Pc}(hR:MapR n0 S W' ev fv wv pv ne' nf' nw' l')(hO:OddR ne nf nw l ne' nf' nw' l')(hE:Ev noB noB W S W')(hn:n1<=W.heap.size)(fE:n1<=n0)(xU:nw<=20)(hl:l.length<=6)(a7:∀p∈l,PcOk p/\p.cls.size<=1000) :
 ∃a1 m1 c1 a2 m2 c2 a3 m3 c3 a4 c4 l2 S3,(.agg #[ev,fv,wv,pv]:Value)= .agg #[.slice a1 m1 c1,.slice a2 m2 c2,.slice a3 m3 c3,.slice a4 l2.length c4]/\OdR n1 S3 W' (.slice a3 m3 c3) (.slice a4 l2.length c4) m3 l2:=by
 have hw:=hR.w;have hr:=hR.row;have dZ:l'.length<=100:=by have:=hO.p;omega
 obtain⟨a1,c1,rfl,-⟩:=hR.e.form;obtain⟨a2,c2,rfl,-⟩:=hR.f.form;obtain⟨a3,c3,rfl,-⟩:=hR.w.form;obtain⟨a4,c4,rfl,-⟩:=(a0d a4f hr oM).form;exact⟨_,_,_,_,_,_,_,_,_,_,_,l',S,rfl,hE.ok,hw,by have:=hO.w;omega,a5r hr fE,λb hb=>(hE.new b hb).elim (λh=>h.elim) λh=>Nat.le_trans hn h,dZ,λp hp=>⟨hO.ok (λq hq=>(a7 q hq).1) p hp,hO.cl (λq hq=>(a7 q hq).2) p hp⟩⟩
def FMo (nn BM n1:Nat)(ea fa wa pa:Option Addr)(ne ec nf fc nw wc pn pc:Nat)(q0 q1 q2 b0 b1 b2 b3:Int)(raw:Sh)(i:Nat)(v:Vu)(w:Wd):Prop :=
 match i with
 |0=>v= .agg #[.slice ea ne ec,.slice fa nf fc,.slice wa nw wc,.slice pa pn pc]
 |1=>v= .agg #[.slice ea ne ec,.slice fa nf fc,.slice wa nw wc,.slice pa pn pc]
 |2=>v= .pointer (some ⟨nn,1,none⟩)
 |3=>v= .agg #[.int .i64 q0,.int .i64 q1,.int .i64 q2]
 |4=>∃a1 m1 c1 a2 m2 c2 a3 m3 c3 a4 c4 l2 S3,v= .agg #[.slice a1 m1 c1,.slice a2 m2 c2,.slice a3 m3 c3,.slice a4 l2.length c4]/\OdR n1 S3 w (.slice a3 m3 c3) (.slice a4 l2.length c4) m3 l2
 |5=>v= .pointer (some ⟨nn,4,none⟩)
 |6=>v= .agg #[.int .u8 b0,.int .u8 b1,.int .u8 b2,.int .u8 b3]
 |7=>v= .pointer (some ⟨nn,8,none⟩)
 |8=>v= .agg #[.int .i64 raw.ax,.int .i64 raw.ay,.int .i64 raw.st,.int .i64 raw.w,.int .i64 raw.h,.int .i64 raw.g]
 |9=>v=shV (a7d b0 b1 b2 b3 raw)
 |_=>False
theorem FMo.kept {nn BM n1:Nat}{ea fa wa pa:Option Addr}{ne ec nf fc nw wc pn pc:Nat}{q0 q1 q2 b0 b1 b2 b3:Int}{raw:Sh}{i:Nat}{v:Vu}{w w':Wd}(h:FMo nn BM n1 ea fa wa pa ne ec nf fc nw wc pn pc q0 q1 q2 b0 b1 b2 b3 raw i v w)(hg:Below w.heap.size w w'):FMo nn BM n1 ea fa wa pa ne ec nf fc nw wc pn pc q0 q1 q2 b0 b1 b2 b3 raw i v w':=by
 unfold FMo at *;split at h
 all_goals first|exact h|(obtain⟨a1,m1,c1,a2,m2,c2,a3,m3,c3,a4,c4,l2,S3,h1,h2⟩:=h;exact⟨a1,m1,c1,a2,m2,c2,a3,m3,c3,a4,c4,l2,S3,h1,h2.up hg⟩)
theorem d9v (la:Option Addr)(ar:Nat)(rows:List (Value×List Int))(q0 q1 q2 b0 b1 b2 b3:Int)(raw:Sh)(df:fits q0)(cT:fits q1)(cU:fits q2)(h0:0<=b0/\b0<=255)(h1:0<=b1/\b1<=255)(h2:0<=b2/\b2<=255)(h3:0<=b3/\b3<=255)(w:Wd)(hM:Mat w.heap.size w (.slice la rows.length ar) rows) :
 Calls prog 9 #[.agg (b0o (.slice la rows.length ar) q0 q1 q2 b0 b1 b2 b3 raw)] w λe w'=>∃ea ne ec fa nf fc wa nw wc pa pc a1 n1 c1 a2 n2 c2 a3 n3 c3 a4 c4 l ws l2 uv,e= .returned (.tuple #[.agg #[.slice ea ne ec,.slice fa nf fc,.slice wa nw wc,.slice pa l.length pc],.agg #[.slice a1 n1 c1,.slice a2 n2 c2,.slice a3 n3 c3,.slice a4 l2.length c4],shV (a7d b0 b1 b2 b3 raw)])/\MapOk w' (.slice wa nw wc) (.slice pa l.length pc) l ws/\MapOd w' (.slice a3 n3 c3) (.slice a4 l2.length c4) l2 uv/\Below w.heap.size w w':=by
 obtain⟨_,_,e_,eU,-⟩:=id hM
 cases e_;obtain⟨m,hm⟩:=zE (min rows.length 8);have tj:min (rows.length:Int) 8=(m:Nat):=oM;have om:0<=(m:Int):=oM;have Qb:(m:Int)<=(ar:Int):=oM;have Mq:m<=ar:=oM;have Nl:m<=rows.length:=oM;replace hm:=Lib.hid hm;go_enter func9,ntmps9;go_upto_region 1 with fail;have kC:=(((Blk.new w (b0o (.slice la rows.length ar) q0 q1 q2 b0 b1 b2 b3 raw) 30).alloc (.cells #[.slice none 0 0,.slice none 0 0,.slice none 0 0,.slice none 0 0] 37)).alloc (.cells #[.slice none 0 0,.slice none 0 0,.slice none 0 0,.slice none 0 0] 37)).alloc (.cells #[.int .i64 0,.int .i64 0,.int .i64 0,.int .i64 0,.int .i64 0,.int .i64 0] 28);have kM:=((Blk.new (w.alloc (.cells (b0o (.slice la rows.length ar) q0 q1 q2 b0 b1 b2 b3 raw) 30)) #[.slice none 0 0,.slice none 0 0,.slice none 0 0,.slice none 0 0] 37).alloc (.cells #[.slice none 0 0,.slice none 0 0,.slice none 0 0,.slice none 0 0] 37)).alloc (.cells #[.int .i64 0,.int .i64 0,.int .i64 0,.int .i64 0,.int .i64 0,.int .i64 0] 28);have kO:=(Blk.new ((w.alloc (.cells (b0o (.slice la rows.length ar) q0 q1 q2 b0 b1 b2 b3 raw) 30)).alloc (.cells #[.slice none 0 0,.slice none 0 0,.slice none 0 0,.slice none 0 0] 37)) #[.slice none 0 0,.slice none 0 0,.slice none 0 0,.slice none 0 0] 37).alloc (.cells #[.int .i64 0,.int .i64 0,.int .i64 0,.int .i64 0,.int .i64 0,.int .i64 0] 28);have kS:=Blk.new (((w.alloc (.cells (b0o (.slice la rows.length ar) q0 q1 q2 b0 b1 b2 b3 raw) 30)).alloc (.cells #[.slice none 0 0,.slice none 0 0,.slice none 0 0,.slice none 0 0] 37)).alloc (.cells #[.slice none 0 0,.slice none 0 0,.slice none 0 0,.slice none 0 0] 37)) #[.int .i64 0,.int .i64 0,.int .i64 0,.int .i64 0,.int .i64 0,.int .i64 0] 28;obtain⟨W1,aH⟩:=zE ((((w.alloc (.cells (b0o (.slice la rows.length ar) q0 q1 q2 b0 b1 b2 b3 raw) 30)).alloc (.cells #[.slice none 0 0,.slice none 0 0,.slice none 0 0,.slice none 0 0] 37)).alloc (.cells #[.slice none 0 0,.slice none 0 0,.slice none 0 0,.slice none 0 0] 37)).alloc (.cells #[.int .i64 0,.int .i64 0,.int .i64 0,.int .i64 0,.int .i64 0,.int .i64 0] 28));have aw:Below w.heap.size w W1:=by rw[<-aH];exact((((zR _ _).alloc (yR _) _).alloc vM _).alloc uM _).alloc uM _
 simp only[World.size_alloc]at kM kO kS;rw[aH]at kC kM kO kS ⊢;clear aH;have AA:=((hM.below aw).mono aw.size).take m Nl;have c0:W1.cell? ⟨w.heap.size,0,none⟩=some (.slice la rows.length ar):=kC.cell 0;go_upto_region 2 with(first
  |(go_at_call 30;(with_reducible refine(c3c _ _ _ AA).mono ?_);rintro e w2⟨S2,ev,fv,wv,pv,l,rfl,⟨⟨ne,dX,av⟩,⟨nf,gA,ir⟩,nw,ql,xU⟩,AB,a7,bB,KI,gn⟩;obtain⟨ea,ec,rfl,-⟩:=dX.form;obtain⟨fa,fc,rfl,-⟩:=gA.form;obtain⟨wa,wc,rfl,-⟩:=ql.form;have pG:=a0d a4f bB oM;have oD:=a1u bB;obtain⟨pa,pc,rfl,-⟩:=pG.form))
 have az:=gn.low30;have oq:=gn.ok;obtain⟨ws,DT,mj,Nn⟩:=b4a oq ql;have fA:Below w2.heap.size w2 (w2.alloc (.cells #[.slice ea ne ec,.slice fa nf fc,.slice wa nw wc,.slice pa l.length pc] 37)):=(zR _ _).alloc (yR _) _;have kB:=Blk.new w2 #[.slice ea ne ec,.slice fa nf fc,.slice wa nw wc,.slice pa l.length pc] 37;obtain⟨W3,ez⟩:=zE (w2.alloc (.cells #[.slice ea ne ec,.slice fa nf fc,.slice wa nw wc,.slice pa l.length pc] 37));rw[ez]at fA kB ⊢;obtain⟨BM,pK⟩:=zE w2.heap.size;have aM:∀b,S2 b->W3.heap[b]? =w2.heap[b]? :=λb hb=>fA.block b (oq.lt hb)
 have bO:Shp S2 w2 W3:=λb c e hb hc=>⟨c,(aM b hb).trans hc,rfl⟩
 have hI:MapI S2 W3 (.slice ea ne ec) (.slice fa nf fc) (.slice wa nw wc) (.slice pa l.length pc) ne nf nw l:=⟨oq.of_same aM,dX.mono (λ_ h=>h) bO,gA.mono (λ_ h=>h) bO,ql.mono (λ_ h=>h) bO,pG.up fA,oD,oM,oM,oM,oM⟩;have vU:MapOk W3 (.slice wa nw wc) (.slice pa l.length pc) l ws:=⟨pG.up fA,oD,AB,a7,mj.up fA fA.size,oM,Nn⟩;have eN:=az.trans (fA.mono az.size);have vV:=fA;have zi:=fA.size;have KJ:=kC.below eN kC.lt;have Gd:=kM.below eN kM.lt;have Ge:=kO.below eN kO.lt;have Gf:=kS.below eN kS.lt;have fw:=aw.trans (eN.mono aw.size);rw[pK]at kB ⊢;clear ez pK aM bO dX gA pG mj Nn c0 AA hM kC kM kO eN fA;have AR:MdR S2 w.heap.size BM ea fa wa pa ne ec nf fc nw wc l.length pc l (.slice la rows.length ar) q0 q1 q2 b0 b1 b2 b3 raw W3 W3:=⟨KJ,kB,hI,zR _ _,yR _,df,cT,cU,h0,h1,h2,h3⟩;refine Go.wp_region_rel 10 zM zM (λ_ W=>MdR S2 w.heap.size BM ea fa wa pa ne ec nf fc nw wc l.length pc l (.slice la rows.length ar) q0 q1 q2 b0 b1 b2 b3 raw W3 W) (λw w'=>Below w.heap.size w w') (FMo w.heap.size BM W1.heap.size ea fa wa pa ne ec nf fc nw wc l.length pc q0 q1 q2 b0 b1 b2 b3 raw) (λ_ _ _ _ h g=>h.kept g) (AR.up (zR _ _).drew) ?step2 ?tail2
 case step2 =>
  obtain⟨nn,iQ⟩:=zE w.heap.size;have KK:∀p∈l,PcOk p/\p.cls.size<=1000:=λp hp=>⟨a7.ok p hp,a7.cl p hp⟩
  obtain⟨pn,qD⟩:=zE l.length;have zj:W1.heap.size<=W3.heap.size:=Nat.le_trans az.size zi;obtain⟨n1,eP⟩:=zE W1.heap.size;rw[iQ,qD,eP];rw[eP]at zj;replace xU:nw<=20:=oM;clear AR vU KJ Gd Ge Gf fw kB hI ql oq gn bB az DT ws KI oD kS a7 vV zi eP;intro i o hi ho c bb W hc hM hA hD K hK;match i,hi,ho with
  |0,_,ho =>
   exact ycq
  |1,_,ho =>
   exact ycq
  |2,_,ho =>
   cases ho;have f1:=a0a (v:= .pointer (some ⟨nn,0,none⟩)) (hA.at_ (k:=1) zM);go_simp;exact hK (.pointer (some ⟨nn,1,none⟩)) W rfl (zR _ _) hM
  |3,_,ho =>
   cases ho;have f16:=a0a (v:= .pointer (some ⟨nn,1,none⟩)) (a0b hD 2 16 zM rfl rfl);have z0:W.cell? ⟨nn,1,none⟩=some (.int .i64 q0):=hM.c.cell 1;have z1:W.cell? ⟨nn,2,none⟩=some (.int .i64 q1):=hM.c.cell 2;have z2:W.cell? ⟨nn,3,none⟩=some (.int .i64 q2):=hM.c.cell 3;go_simp;exact hK (.agg #[.int .i64 q0,.int .i64 q1,.int .i64 q2]) W rfl (zR _ _) hM
  |4,_,ho =>
   cases ho;have f15:=a0a (v:= .agg #[.slice ea ne ec,.slice fa nf fc,.slice wa nw wc,.slice pa pn pc]) (a0b hD 1 15 zM rfl rfl);have f17:=a0a (v:= .agg #[.int .i64 q0,.int .i64 q1,.int .i64 q2]) (a0b hD 3 17 zM rfl rfl);go_simp;refine(d1u _ W _ _ _ _ _ _ _ _ hM.I q0 q1 q2 hM.f0 hM.f1 hM.f2).mono ?_;rintro e W'⟨S',jV,jW,pJ,mJ,ne',nf',nw',l',rfl,hR,hO,hE⟩;go_simp;exact hK _ W' (OdR.of hR hO hE (Nat.le_trans zj hM.sz) (Nat.le_trans zj hM.sz) xU AB KK) hE.low30 (hM.up hE.low30)
  |5,_,ho =>
   cases ho;have f1:=a0a (v:= .pointer (some ⟨nn,0,none⟩)) (hA.at_ (k:=1) zM);go_simp;exact hK (.pointer (some ⟨nn,4,none⟩)) W rfl (zR _ _) hM
  |6,_,ho =>
   cases ho;have f19:=a0a (v:= .pointer (some ⟨nn,4,none⟩)) (a0b hD 5 19 zM rfl rfl);have z0:W.cell? ⟨nn,4,none⟩=some (.int .u8 b0):=hM.c.cell 4;have z1:W.cell? ⟨nn,5,none⟩=some (.int .u8 b1):=hM.c.cell 5;have z2:W.cell? ⟨nn,6,none⟩=some (.int .u8 b2):=hM.c.cell 6;have z3:W.cell? ⟨nn,7,none⟩=some (.int .u8 b3):=hM.c.cell 7;go_simp;exact hK (.agg #[.int .u8 b0,.int .u8 b1,.int .u8 b2,.int .u8 b3]) W rfl (zR _ _) hM
  |7,_,ho =>
   cases ho;have f1:=a0a (v:= .pointer (some ⟨nn,0,none⟩)) (hA.at_ (k:=1) zM);go_simp;exact hK (.pointer (some ⟨nn,8,none⟩)) W rfl (zR _ _) hM
  |8,_,ho =>
   cases ho;have f21:=a0a (v:= .pointer (some ⟨nn,8,none⟩)) (a0b hD 7 21 zM rfl rfl);have z0:W.cell? ⟨nn,8,none⟩=some (.int .i64 raw.ax):=hM.c.cell 8;have z1:W.cell? ⟨nn,9,none⟩=some (.int .i64 raw.ay):=hM.c.cell 9;have z2:W.cell? ⟨nn,10,none⟩=some (.int .i64 raw.st):=hM.c.cell 10;have z3:W.cell? ⟨nn,11,none⟩=some (.int .i64 raw.w):=hM.c.cell 11;have z4:W.cell? ⟨nn,12,none⟩=some (.int .i64 raw.h):=hM.c.cell 12;have z5:W.cell? ⟨nn,13,none⟩=some (.int .i64 raw.g):=hM.c.cell 13;go_simp;exact hK (.agg #[.int .i64 raw.ax,.int .i64 raw.ay,.int .i64 raw.st,.int .i64 raw.w,.int .i64 raw.h,.int .i64 raw.g]) W rfl (zR _ _) hM
  |9,_,ho =>
   cases ho;have f20:=a0a (v:= .agg #[.int .u8 b0,.int .u8 b1,.int .u8 b2,.int .u8 b3]) (a0b hD 6 20 zM rfl rfl);have f22:=a0a (v:= .agg #[.int .i64 raw.ax,.int .i64 raw.ay,.int .i64 raw.st,.int .i64 raw.w,.int .i64 raw.h,.int .i64 raw.g]) (a0b hD 8 22 zM rfl rfl);go_simp;refine(d9g b0 b1 b2 b3 hM.h0 hM.h1 hM.h2 hM.h3 raw W).mono ?_;rintro e W'⟨rfl,hb⟩;go_simp;exact hK _ W' rfl hb (hM.up hb)
  |i+10,hi,_=>exact absurd hi oM
 case tail2 =>
  intro bb W' hM hA ah;have h14:bb.eval (.tmp 14)= .agg #[.slice ea ne ec,.slice fa nf fc,.slice wa nw wc,.slice pa l.length pc]:=ah 0 oM _ _ rfl rfl;obtain⟨a1,m1,d1,a2,m2,d2,a3,m3,d3,a4,d4,l2,S3,h18,Sx⟩:=(show ∃a1 n1 c1 a2 n2 c2 a3 n3 c3 a4 c4 l2 S3,bb.eval (.tmp 18)= .agg #[.slice a1 n1 c1,.slice a2 n2 c2,.slice a3 n3 c3,.slice a4 l2.length c4]/\OdR W1.heap.size S3 W' (.slice a3 n3 c3) (.slice a4 l2.length c4) n3 l2 from ah 4 oM _ _ rfl rfl);obtain⟨m4,Gg⟩:=zE l2.length;rw[Gg]at h18;replace Gg:=Lib.hid Gg;have h23:bb.eval (.tmp 23)=shV (a7d b0 b1 b2 b3 raw):=ah 9 oM _ _ rfl rfl;have aC:=hA.frame (rT 14 (rF 10 ([]))) _ rfl zM;clear ah hA;obtain⟨f,hf⟩:=zDt bb;have g14:f 14= .agg #[.slice ea ne ec,.slice fa nf fc,.slice wa nw wc,.slice pa l.length pc]:=by rw[<-hf,<-h14];rfl
  have g18:f 18= .agg #[.slice a1 m1 d1,.slice a2 m2 d2,.slice a3 m3 d3,.slice a4 m4 d4]:=by rw[<-hf,<-h18];rfl
  have g23:f 23=shV (a7d b0 b1 b2 b3 raw):=by rw[<-hf,<-h23];rfl
  rw[hf]at aC;clear hf h14 h18 h23;obtain⟨sh,bO⟩:=zE (a7d b0 b1 b2 b3 raw);rw[bO]at g23;replace bO:=Lib.hid bO;subst aC;simp only[rT,rF,a2d,g14,g18,g23,Nat.reduceAdd];clear g14 g18 g23;simp only[zU];have Gh:=Gd.below hM.bel Gd.lt;have Gi:=Ge.below hM.bel Ge.lt;have Gj:=Gf.below hM.bel Gf.lt;have jK:=fw.trans (hM.bel.mono fw.size);have Fg:=kS.lt;have mi:∀b,W1.heap.size<=b->b<w2.heap.size->W'.heap[b]? =w2.heap[b]? :=λb _ hb=>(hM.bel.block b (Nat.lt_of_lt_of_le hb zi)).trans (vV.block b hb)
  clear hM AR vU KJ Gd Ge Gf kB hI fw;obtain⟨e0,e1,e2,e3⟩:=zN4 Gh;obtain⟨o0,o1,o2,o3⟩:=zN4 Gi;obtain⟨t0,t1,t2,t3,t4,t5⟩:=zN6 Gj;have fe:=Gh.frozen;have fo:=Gi.frozen;have ft:=Gj.frozen;have EH:w.heap.size+1≠w.heap.size+1+1:=oM;have gT:w.heap.size+1≠w.heap.size+1+1+1:=oM;have jN:w.heap.size+1+1≠w.heap.size+1+1+1:=oM;have KL:=((Gh.set4 (.slice ea ne ec) (.slice fa nf fc) (.slice wa nw wc) (.slice pa l.length pc)).not4 EH (.slice a1 m1 d1) (.slice a2 m2 d2) (.slice a3 m3 d3) (.slice a4 m4 d4)).not6 gT (.int .i64 sh.ax) (.int .i64 sh.ay) (.int .i64 sh.st) (.int .i64 sh.w) (.int .i64 sh.h) (.int .i64 sh.g);have kOf:=((Gi.not4 EH.symm (.slice ea ne ec) (.slice fa nf fc) (.slice wa nw wc) (.slice pa l.length pc)).set4 (.slice a1 m1 d1) (.slice a2 m2 d2) (.slice a3 m3 d3) (.slice a4 m4 d4)).not6 jN (.int .i64 sh.ax) (.int .i64 sh.ay) (.int .i64 sh.st) (.int .i64 sh.w) (.int .i64 sh.h) (.int .i64 sh.g);have KM:=((Gj.not4 gT.symm (.slice ea ne ec) (.slice fa nf fc) (.slice wa nw wc) (.slice pa l.length pc)).not4 jN.symm (.slice a1 m1 d1) (.slice a2 m2 d2) (.slice a3 m3 d3) (.slice a4 m4 d4)).set6 (.int .i64 sh.ax) (.int .i64 sh.ay) (.int .i64 sh.st) (.int .i64 sh.w) (.int .i64 sh.h) (.int .i64 sh.g);have zW:=e3d (e1p (e1p jK (B:=w.heap.size+1) oM (.slice ea ne ec) (.slice fa nf fc) (.slice wa nw wc) (.slice pa l.length pc)) (B:=w.heap.size+1+1) oM (.slice a1 m1 d1) (.slice a2 m2 d2) (.slice a3 m3 d3) (.slice a4 m4 d4)) (B:=w.heap.size+1+1+1) oM (.int .i64 sh.ax) (.int .i64 sh.ay) (.int .i64 sh.st) (.int .i64 sh.w) (.int .i64 sh.h) (.int .i64 sh.g);unfold c4o c8e at KL kOf KM zW;clear Gh Gi Gj;go_wp2_with fail;obtain⟨WF,yU⟩:=zE (c8e (c4o (c4o W' (w.heap.size+1) (.slice ea ne ec) (.slice fa nf fc) (.slice wa nw wc) (.slice pa l.length pc)) (w.heap.size+1+1) (.slice a1 m1 d1) (.slice a2 m2 d2) (.slice a3 m3 d3) (.slice a4 m4 d4)) (w.heap.size+1+1+1) (.int .i64 sh.ax) (.int .i64 sh.ay) (.int .i64 sh.st) (.int .i64 sh.w) (.int .i64 sh.h) (.int .i64 sh.g));unfold c4o c8e at yU;have uV:∀b,W1.heap.size<=b->b<w2.heap.size->WF.heap[b]? =w2.heap[b]? :=λb h1 h2=>by
   rw[<-yU];simp only[a3v (show b≠w.heap.size+1 by omega),a3v (show b≠w.heap.size+1+1 by omega),a3v (show b≠w.heap.size+1+1+1 by omega)];exact mi b h1 h2
  have Sy:∀b,W1.heap.size<=b->b<W'.heap.size->WF.heap[b]? =W'.heap[b]? :=λb h1 h2=>by
   rw[<-yU];simp only[a3v (show b≠w.heap.size+1 by omega),a3v (show b≠w.heap.size+1+1 by omega),a3v (show b≠w.heap.size+1+1+1 by omega)]
  rw[yU]at zW KL kOf KM ⊢;clear yU e0 e1 e2 e3 o0 o1 o2 o3 t0 t1 t2 t3 t4 t5 fe fo ft;have EI:∀b,S2 b->W1.heap.size<=b:=λb hb=>(gn.new b hb).elim (λh=>h.elim) id
  have yV:TW S2 WF:=oq.of_same λb hb=>uV b (EI b hb) (oq.lt hb)
  have KN:SL S2 WF 149 (.slice wa nw wc) nw:=ql.mono (λ_ h=>h) λb c e hb hc=>⟨c,(uV b (EI b hb) (oq.lt hb)).trans hc,rfl⟩
  have Sz:=c6b bB uV;obtain⟨SA,SB,KO,KP⟩:=b4a yV KN;have SD:=a0d a4f Sz oM;obtain⟨uv,KQ⟩:=(Sx.same Sy).map;exact bodyPost_ret (b7r qM qM KL underlying37 qM zM qM kOf underlying37 qM zM qM KM underlying28 qM zM) rfl ⟨_,_,_,_,_,_,_,_,_,_,_,_,_,_,_,_,_,_,_,_,_,_,l,SA,l2,uv,by rw[bO.out,Gg.out],⟨SD,oD,AB,a7,KO,oM,KP⟩,KQ,zW⟩
theorem c8m (af:Bool)(c:Nat):(cellAt af c).length<=3:=by
 unfold cellAt;repeat' split
 all_goals simp
theorem b0r (s:Bw):∀(f k:Nat) (l:List UInt8),(a3g s f k l).length<=l.length+3*f
 |0,_,l=>by simp[a3g]
 |f+1,k,l=>by
  unfold a3g;split
  ·split
   ·rename_i n _
    have:=b0r s f (k+(wordsL[n]!).size) (l++[a4m[n]!]);rw[List.length_append,List.length_singleton]at this;omega
   ·have:=b0r s f (k+1) (l++cellAt (a4u s k) (s[k]!).toNat)
    have h2:=c8m (a4u s k) (s[k]!).toNat;rw[List.length_append]at this;omega
  ·omega
theorem c8n (s:Bw):(a4v s).1.size<=3*s.size:=by
 unfold a4v;split
 ·have:=b0r s s.size 0 []
  rw[List.length_nil,Nat.zero_add]at this;exact this
 ·exact Nat.zero_le _
theorem d6v {p:Pc}(h:p.nm.size<=1000):∀k∈a2s p,k.c.size<=3000:=by
 unfold a2s c8u;intro k hk;split at hk
 ·simp at hk
 ·split at hk
  ·simp only[Option.toList_some,List.mem_singleton]at hk
   subst hk;have:=c8n p.nm;simp only;omega
  ·simp at hk
theorem c8o {g:Int}{pf:Pc->Bool×List Dt}{kf:Pc->List Ke}(wd:List Dt)(qs:List Pc):∀k∈(a5j g pf kf wd qs).keys,∃p∈qs,k∈kf p:=by
 refine a4s (Q:=λqs=>∀k∈(a5j g pf kf wd qs).keys,∃p∈qs,k∈kf p) (by simp[a5j]) ?_ qs;intro l x ih;rw[a4i]
 cases ho:c9v g pf (a5j g pf kf wd l).dots x with
 |some z =>
  rw[a6q ho];intro k hk;obtain⟨p,hp,h⟩:=ih k hk;exact⟨p,by simp[hp],h⟩
 |none =>
  rw[a8b ho];intro k hk;rcases List.mem_append.1 hk with hk|hk
  ·obtain⟨p,hp,h⟩:=ih k hk
   exact⟨p,by simp[hp],h⟩
  ·exact⟨x,by simp,hk⟩
theorem d2p {s:Sh}{ws:List Wy}{l:List Pc}(hl:∀p∈l,PcOk p)(hw:∀y∈ws,fits y.id):∀x∈(a2n s ws (a0q l)).left,fits x.i :=
 c8f _ (d9m s ws) (c4p s) (d9n s ws hw) _ λp hp=>(hl p ((a0v l).mem_iff.1 hp)).id
theorem e1t {s:Sh}(hs:OkS s){ws:List Wy}{l:List Pc}(hl:l.length<=100)(a7:∀p∈l,PcOk p)(hw:∀y∈ws,fits y.id):PlW 0 (a2n s ws (a0q l)):=by
 obtain⟨h1,h2,h3⟩:=a9h s ws (a0q l);have h4:=a7b hs ws;have h5:(a0q l).length=l.length:=(a0v l).length_eq;refine⟨λd hd=> ?_,oM,λk hk=> ?_,oM,d2p a7 hw,oM⟩
 ·have ho:onS s d.x d.y=true:=by
   rcases b2t _ _ d hd with h|⟨p,-,h⟩
   ·exact e0w s _ d h
   ·exact c7n s p d h
  obtain⟨⟨h0,h1⟩,h2,h3⟩:=a5y.1 ho;have:=hs.w1;have:=hs.h1;exact⟨⟨oM,oM⟩,oM,oM⟩
 ·obtain⟨p,hp,eD⟩:=c8o _ _ k hk
  have:=d6v (a7 p ((a0v l).mem_iff.1 hp)).nm k eD;omega
theorem e1u :PlW 0 ⟨[],[],[]⟩:=⟨λ_ h=>by simp at h,by simp,λ_ h=>by simp at h,by simp,λ_ h=>by simp at h,by simp⟩
theorem d6w (W:Wd):PlanIn W (a1t (.slice none 0 0) (.slice none 0 0) (.slice none 0 0)) ⟨[],[],[]⟩ :=
 ⟨_,_,_,rfl,⟨⟨_,_,rfl,yR _,by simp,λk hk=>by simp at hk⟩,.inl rfl⟩,⟨⟨_,_,rfl,yR _,by simp,λk hk=>by simp at hk⟩,.inl rfl⟩,⟨_,_,rfl,yR _,by simp,λk hk=>by simp at hk⟩,.inl rfl⟩
end
end Go.Proofs.YtfocdbjceedagaaGreatDoor
