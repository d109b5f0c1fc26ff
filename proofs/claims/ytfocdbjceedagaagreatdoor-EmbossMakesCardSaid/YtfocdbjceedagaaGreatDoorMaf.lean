/-
  Parts.
-/
import Derived.Test.YtfocdbjceedagaaGreatDoorMad
set_option linter.unusedVariables false
set_option linter.unusedSimpArgs false
set_option maxHeartbeats 4000000
set_option maxRecDepth 100000
namespace Go.Proofs.YtfocdbjceedagaaGreatDoor
open Tryz
section
open Go.RowKit Go.Shelf Go.Sort Go.Lib Go.Maps
attribute [local go_sem] Oper.semAt_some
attribute [local go_sem ↓] Go.wp_at_zero Go.wp_at_succ
variable{b n:Nat}{W:World}
theorem b3n (Bm b nn:Nat)(en:List (a0m×Int))(w:World)(hBm:Bm<w.heap.size)(hm:w.cell? ⟨Bm,0,none⟩=some (.map (some b)))(hM:MapIs w b nn en)(hnn:nn<=4294967296)(hne:en≠[])(hlen:en.length<=4294967296):
 Calls prog 123 #[.func (.func 162) #[] #[.pointer (some ⟨Bm,0,none⟩)],.func (.func 125) #[] #[]] w λe w'=>∃v,e= .returned v/\RowS w.heap.size w' v (a2o en)/\Below w.heap.size w w':=by
 have eg:∀args w,(callFunc 162 args).run prog w= .ok (.enter 162 args) w:=enters_of func162 zM rfl;have hnd:(en.map (·.1)).Nodup:=by obtain⟨D,_,h,_⟩:=hM;exact h
 have hcol:=(callsIn_wide (n:=3)).1 (b4a _ 3 trivial trivial rfl (yR _) 162 #[.pointer (some ⟨Bm,0,none⟩)] trivial eg _ _ nn hnn w (b3z _ 1 trivial rfl (yR _) Bm b nn en w hBm hm hM));go_enter func123,ntmps123;go_wp2_with (go_at_call 160;refine hcol.mono ?_;rintro e w1⟨v,ss,rfl,⟨hs1,hs2⟩,hrow,hnl,hb1⟩);clear hcol;have hp:=b4c hnd hs1 hs2;have hl:=hp.length_eq;rw[a2v]at hl;have hss:ss≠[]:=λe=>by
  rw[e]at hl;exact hne (List.eq_nil_of_length_eq_zero hl.symm)
 clear hs1 hs2 hnl;have hsf:=b7y w.heap.size v ss en w1 hrow hss hp oM;go_wp2_with (go_at_call 161;refine hsf.mono ?_;rintro e w2⟨rfl,hr2,hb2⟩);go_ret;exact⟨v,rfl,hr2,hb1.trans hb2⟩
structure Dt where
 x:Int
 y:Int
 k:Int
 i:Int
deriving DecidableEq
abbrev a2c (d:Dt):List Value:=[.int .i64 d.x,.int .i64 d.y,.int .i64 d.k,.int .i64 d.i]
def a1h (kind:Int)(en:List (a0m×Int)):List Dt:=(a2o en).map λp=>⟨p.1,p.2,kind,(a7a en p).getD 0⟩
theorem a4i (kind:Int)(en:List (a0m×Int)):(a1h kind en).length=en.length:=by unfold a1h;rw[List.length_map,a2v]
theorem b1r:(prog.info? 54).map (λi=>(i.zero,i.size,i.bytes))=some (some (.agg #[.int .i64 0,.int .i64 0,.int .i64 0,.int .i64 0]),4,32):=by kernel_rfl
theorem MapIs.look {en:List (a0m×Int)}(h:MapIs W b n en){p:a0m}(hp:a7h p):
 (Instr.lookup 117 (.map (some b)) (a4q p) false).run prog W= .ok (.int .i64 ((a7a en p).getD 0)) W:=by
 obtain⟨D,ho,-,-,hk⟩:=h;obtain⟨c,hrun,hat,-⟩:=ho.lookup_int spotLaw underlying117 underlying3 (b5r _) (a1q hp);rw[(hk p hp).2]at hat;simp at hat;rw[hrun,hat]
theorem MapIs.grow {en:List (a0m×Int)}(h:MapIs W b n en)(p:Growth):MapIs (W.growBy p) b n en:=h.kept (a0q W p) vM
theorem RowS.cons {n₀:Nat}{v:Value}{ss:List a0m}(h:RowS n₀ W v ss)(hne:ss≠[]):∃g cap,v= .slice (some ⟨g,0,none⟩) ss.length cap/\n₀<=g/\g<W.heap.size/\∀j,(h:j<ss.length)->W.cell? ⟨g,j*2,none⟩=some (.int .i64 ss[j].1)/\W.cell? ⟨g,j*2+1,none⟩=some (.int .i64 ss[j].2):=by
 rcases h with⟨_,h⟩|h
 ·exact absurd h hne
 ·exact h
theorem d1x {en:List (a0m×Int)}(h:en≠[]):a2o en≠[]:=λe=>h (List.eq_nil_of_length_eq_zero (by rw[<-a2v,e];rfl))
theorem b1s (kind:Int)(b nn:Nat)(en:List (a0m×Int))(w:World)(hM:MapIs w b nn en)(hnn:nn<=4294967296)(hne:en≠[])(hlen:en.length<=8388608):
 Calls prog 68 #[.map (some b),.int .i64 kind] w λe w'=>∃v base,e= .returned v/\w.heap.size<=base/\w'.ownsRow base 54 4 v (a1h kind en).length ((a1h kind en).flatMap a2c)/\Below w.heap.size w w':=by
 obtain⟨i0,hi0,hz0,hz1,hz2⟩:=info_parts b1r;have hb:=hM.lt;have hkeys:=λmb W=>(callsIn_wide (n:=1)).1 (c7x _ 1 trivial rfl mb W)
 have hsf:=b3n w.heap.size b nn en (w.alloc (.cells #[.map (some b)] 117)) vM vM (hM.alloc _) hnn hne oM;simp only[World.size_alloc]at hsf;go_enter func68,ntmps68;go_wp2_with (first|(go_at_call 124;refine(hkeys _ _).mono ?_;rintro e w1⟨rfl,rfl⟩)|(go_at_call 123;refine hsf.mono ?_;rintro e w2⟨v,rfl,hr2,hb2⟩;obtain⟨g,cap,rfl,hg0,hg1,hcs⟩:=hr2.cons (d1x hne)));clear hsf hkeys;have hB2:RowKit.Below w.heap.size w w2:=Below.trans (b:=w.alloc (.cells #[.map (some b)] 117)) zC (hb2.mono zC);have hM2:=hM.below hB2 hb;have hs2:=hB2.size;have hfit:∀e∈en,a7h e.1:=by obtain⟨D,_,_,h,_⟩:=hM;exact h
 have hkl:=Lib.hid (a2v en);have hkb:(a2o en).length<=8388608:=by rw[hkl.out];exact hlen
 have hfk:∀p∈a2o en,a7h p:=λp hp=>by
  have:=(List.mergeSort_perm _ _).mem_iff.1 hp;obtain⟨e,he,rfl⟩:=List.mem_map.1 this;exact hfit e he
 clear hb2 hM hfit;go_loopw [4,13] (λu i wr=>∃(k:Nat) (v:Value),k<=(a2o en).length/\u=v/\i= .int .i64 k/\wr.ownsRow w2.heap.size 54 4 v k (((a1h kind en).take k).flatMap a2c)/\RowKit.Below w2.heap.size w2 wr)
  (λ_ i _=>(a2o en).length-(intOf i).toNat)
 case atStart=>exact⟨0,_,Nat.zero_le _,rfl,rfl,⟨by simp,.inl ⟨rfl,rfl⟩⟩,zR _ _⟩
 case round =>
  obtain⟨k,v,hk,rfl,rfl,hrow,hnx⟩:=hrel;have hsw:=hnx.size;by_cases hlt:k<(a2o en).length
  ·have hltI:(k:Int)<((a2o en).length:Int):=oM
   obtain⟨c0,c1⟩:=hcs k hlt;have c0:=(hnx.cell (p:=⟨g,k*2,none⟩) hg1).trans c0;have c1:=(hnx.cell (p:=⟨g,k*2+1,none⟩) hg1).trans c1;have hpk:=hfk _ (List.getElem_mem hlt);have hd:(a1h kind en)[k]? =some ⟨(a2o en)[k].1,(a2o en)[k].2,kind,(a7a en (a2o en)[k]).getD 0⟩:=by
    unfold a1h;rw[List.getElem?_map,List.getElem?_eq_getElem hlt];rfl
   generalize hp:(a2o en)[k]=p at c0 c1 hpk hd;clear hp;obtain⟨px,py⟩:=p;simp only at c0 c1 hd;obtain⟨id,hid⟩:=zE ((a7a en (px,py)).getD 0);rw[hid]at hd;have hw1:=hM2.below hnx hM2.lt;go_wp2_with fail;obtain⟨W,hW⟩:=zE (wr.alloc (.cells #[.int .i64 px,.int .i64 py] 122));have bX:Blk W wr.heap.size #[.int .i64 px,.int .i64 py] 122:=by rw[<-hW];exact Blk.new wr _ _
   have hrowW:W.ownsRow w2.heap.size 54 4 u4 k (((a1h kind en).take k).flatMap a2c):=by rw[<-hW];exact hrow.alloc _
   have hMW:MapIs W b nn en:=by rw[<-hW];exact hw1.alloc _
   have hnW:RowKit.Below w2.heap.size w2 W:=by rw[<-hW];exact hnx.alloc hsw _
   have hsW:=hnW.size;have hlk:(Instr.lookup 117 (.map (some b)) (.agg #[.int .i64 px,.int .i64 py]) false).run prog W.drew= .ok (.int .i64 id) W.drew:=by
    have:=(show MapIs W.drew b nn en from hMW).look hpk;rw[hid]at this;exact this
   have hrowD:W.drew.ownsRow w2.heap.size 54 4 u4 k (((a1h kind en).take k).flatMap a2c):=hrowW;have hnD:RowKit.Below w2.heap.size w2 W.drew:=hnW.drew;have hsD:W.drew.heap.size=W.heap.size:=rfl;have x0:W.drew.cell? ⟨wr.heap.size,0,none⟩=some (.int .i64 px):=bX.cell 0;have x1:W.drew.cell? ⟨wr.heap.size,1,none⟩=some (.int .i64 py):=bX.cell 1;rw[hW];clear hW hrow hw1 c0 c1;generalize wr.heap.size=Bx at *;go_region_law (refine step_append_lies _ qM _ _ _ qM w2.heap.size 54 i0 _ 4 32 underlying41 hi0 hz0 hz1 hz2 rfl oM u4 k _ qM (hrowD.alloc _) _ 1 1 _ qM ?_ (World.news_of_block (heap_alloc_new _ _)) (by simp[Value.oneCell']) oM oK oM uM _ rfl ?_;rfl;intro g2 cap2 w3 hown3 hgrow3 hat3 hlt3)
   all_goals
    clear hlk hrowD x0 x1;have hB3:RowKit.Below w2.heap.size w2 w3:=by
     exact((hnW.alloc hsW (.cells #[.int .i64 px,.int .i64 py,.int .i64 kind,.int .i64 id] 54)).drew).grown hgrow3 (by show w2.heap.size<=(W.alloc _).heap.size;simp;omega) (λr e=>(hrowW.lt r e).1)
    have htk:((a1h kind en).take (k+1)).flatMap a2c=((a1h kind en).take k).flatMap a2c++a2c ⟨px,py,kind,id⟩:=by
     rw[List.take_add_one,hd];simp[List.flatMap_append]
    go_wp2_with fail;go_roundw
    case rel=>exact⟨k+1,_,oM,rfl,by go_num,by rw[htk];exact hown3,hB3⟩
    case measure=>simp[intOf];omega
  ·obtain rfl:k=(a2o en).length:=oM
   go_wp2_with fail;go_ret;refine⟨u4,w2.heap.size,rfl,hs2,?_,hB2.trans (hnx.mono hs2)⟩;have hl:(a1h kind en).length=(a2o en).length:=by rw[a4i,hkl.out]
   rw[hl];rw[<-hl,List.take_length,hl]at hrow;exact hrow
end
section
open Go.RowKit Go.Shelf
attribute [local go_sem] Oper.semAt_some
variable{N t x:Int}{Ba Bb:Nat}
def mx (x y:Int):Int:=if y>x then y else x
def c7l (a b c d:Int):Int:=mx (mx (mx a b) c) d
theorem run_max4 {P:Program}(ts:Array TypeId)(t:TypeId)(a b c d:Int)(w:World):(Builtin.max_ ts t #[.int .i64 a,.int .i64 b,.int .i64 c,.int .i64 d]).run P w= .ok (.int .i64 (c7l a b c d)) w:=by
 simp[Builtin.max_,Builtin.max2,c7l,mx]
theorem c8f (a b c d:Int):a<=c7l a b c d/\b<=c7l a b c d/\c<=c7l a b c d/\d<=c7l a b c d:=by
 unfold c7l mx;exact yhs
theorem c1a {a b c d m:Int}(ha:a<=m)(hb:b<=m)(hc:c<=m)(hd:d<=m):c7l a b c d<=m:=by
 unfold c7l mx;exact yhs
def a2x (a b:a0m):Int:=c7l (b.1-a.1) (-(b.1-a.1)) (b.2-a.2) (-(b.2-a.2))
def a2p (a b:a0m)(t:Int):a0m :=
 if 0<a2x a b then
  (a.1+(2*t*(b.1-a.1)+a2x a b) / (2*a2x a b),a.2+(2*t*(b.2-a.2)+a2x a b) / (2*a2x a b))
 else a
structure Near (p:a0m):Prop where
 x0 : -40000<=p.1
 x1:p.1<=40000
 y0 : -40000<=p.2
 y1:p.2<=40000
instance (n :Int):Decidable (fits n):=inferInstanceAs (Decidable (_/\_))
instance (p :a0m):Decidable (a7h p):=inferInstanceAs (Decidable (_/\_))
def b7n {α:Type}(f:Nat->α)(k:Nat):List α:=(List.range k).map f
theorem b7z {α:Type}(f:Nat->α)(k:Nat):b7n f (k+1)=b7n f k++[f k]:=by simp[b7n,List.range_succ]
theorem a2s {α:Type}(f:Nat->α)(k:Nat):(b7n f k).length=k:=by simp[b7n]
abbrev a9d :={ p:a0m // a7h p }
def b0r (a b:a0m)(k:Nat):a9d:=if h:a7h (a2p a b k)then⟨a2p a b k,h⟩else⟨(0,0),by constructor <;> constructor <;> decide⟩
theorem b1t {a b:a0m}{k:Nat}(h:a7h (a2p a b k)):(b0r a b k).1=a2p a b k:=by unfold b0r;rw[dif_pos h]
theorem a9e {ax ay bx by_:Int}(h:a2x (ax,ay) (bx,by_)=N)(h0:0<N):a2p (ax,ay) (bx,by_) t=(ax+(2*t*(bx-ax)+N) / (2*N),ay+(2*t*(by_-ay)+N) / (2*N)):=by
 unfold a2p;rw[h,if_pos h0]
theorem a7n {a b:a0m}(h:a2x a b=N)(h0:¬0<N):a2p a b t=a:=by
 unfold a2p;rw[h,if_neg h0]
theorem c1b (t0:0<=t)(t1:t<=N)(N1:N<=4194304)(x0 : -N<=x)(x1:x<=N): -(2*N)*4194304<=2*t*x/\2*t*x<=(2*N)*4194304:=by
 have h1:2*t*x<=2*t*N:=Int.mul_le_mul_of_nonneg_left x1 oM;have h2:2*t*(-N)<=2*t*x:=Int.mul_le_mul_of_nonneg_left x0 oM;have h3:2*t*N<=2*N*4194304:=Int.mul_le_mul oM N1 oM oM;have h4:2*t*(-N) = -(2*t*N):=by rw[Int.mul_neg]
 have h5 : -(2*N)*4194304 = -(2*N*4194304):=by rw[Int.neg_mul]
 omega
theorem c8g (N0:0<N)(t0:0<=t)(t1:t<=N)(N1:N<=4194304)(x0 : -N<=x)(x1:x<=N): -4194305<=(2*t*x+N) / (2*N)/\(2*t*x+N) / (2*N)<=4194305:=by
 obtain⟨h1,h2⟩:=c1b t0 t1 N1 x0 x1;constructor
 ·refine Int.le_ediv_of_mul_le oM ?_
  have : -4194305*(2*N) = -(2*N)*4194304-2*N:=by grind
  omega
 ·refine Int.ediv_le_of_le_mul oM ?_
  have:4194305*(2*N)=(2*N)*4194304+2*N:=by grind
  omega
attribute [local go_sem] run_max4
theorem d1y (n:Nat)(hn:1<=n)(l Ba Bb n₀:Nat)(ax ay bx by_:Int)(ha0 : -40000<=ax)(ha1:ax<=40000)(ha2 : -40000<=ay)(ha3:ay<=40000)(hb0 : -40000<=bx)(hb1:bx<=40000)(hb2 : -40000<=by_)(hb3:by_<=40000)
 (J Jx:List a9d->World->Prop)
 (hY:∀pre (x:a9d) W,J pre W->pre.length<(a2x (ax,ay) (bx,by_)+1).toNat->YieldAt Fence.wide (n-1) prog l #[a4q x.1] W λe W' =>
  (e= .returned (.bool true)/\J (pre++[x]) W'/\(W'.heap[Ba]? =W.heap[Ba]?/\W'.heap[Bb]? =W.heap[Bb]?))\/(e= .returned (.bool false)/\Jx (pre++[x]) W'))
 (hJ:∀pre (A A':World),J pre A->A.grownBy A' none->J pre A')
 (W:World)
 (kA:Blk W Ba #[.int .i64 ax,.int .i64 ay] 122) (kB:Blk W Bb #[.int .i64 bx,.int .i64 by_] 122) (h0:J [] W) :
 CallsIn Fence.wide n prog 139 #[.func (.yield l) #[] #[],.pointer (some ⟨Bb,0,none⟩),.pointer (some ⟨Ba,0,none⟩)] W λe W'=>(∃v,e= .returned v) /\
  ((∃ys,ys=b7n (b0r (ax,ay) (bx,by_)) (a2x (ax,ay) (bx,by_)+1).toNat/\J ys W')\/(∃pre,True/\Jx pre W')):=by
 have c0:W.cell? ⟨Ba,0,none⟩=some (.int .i64 ax):=kA.cell 0;have c1:W.cell? ⟨Ba,1,none⟩=some (.int .i64 ay):=kA.cell 1;have c2:W.cell? ⟨Bb,0,none⟩=some (.int .i64 bx):=kB.cell 0;have c3:W.cell? ⟨Bb,1,none⟩=some (.int .i64 by_):=kB.cell 1;obtain⟨N,hN⟩:=zE (c7l (bx-ax) (-(bx-ax)) (by_-ay) (-(by_-ay)));have hge:=c8f (bx-ax) (-(bx-ax)) (by_-ay) (-(by_-ay));have hle:=c1a (a:=bx-ax) (b := -(bx-ax)) (c:=by_-ay) (d := -(by_-ay)) (m:=2097152) oM oM oM oM;rw[hN]at hge hle;obtain⟨g0,g1,g2,g3⟩:=hge;have hNe:=Lib.hid (show a2x (ax,ay) (bx,by_)=N from hN);refine callsIn_of_wp func139 rfl trivial ?_ rfl;simp only[ntmps139,List.size_toArray,List.length_cons,List.length_nil,Nat.reduceAdd,Nat.reduceSub,Array.replicate_succ,Array.replicate_zero,List.push_toArray,List.append_toArray,List.nil_append,List.cons_append];gi_wp2;refine wpIn_wide.2 ?_;first|with_reducible refine a0e zM zM ?_|with_reducible refine a0g zM zM ?_
 repeat(first|go_big_quiet_step (fail)|quiet_step (fail))
 refine wpQuiet_nil ?_;intro _ hw_;obtain⟨p,hw_⟩:=hw_;subst hw_;gi_wp2;have N0:0<=N:=oM;obtain⟨m,hm⟩:∃m:Nat,N=m:=⟨N.toNat,oM⟩;have hm1:(N+1).toNat=m+1:=oM;replace hm:=Lib.hid hm;replace hm1:=Lib.hid hm1;have kA1:=kA.grow p;have kB1:=kB.grow p;have h1:=hJ [] W _ h0 (a0q W p);generalize W.growBy p=W1 at *;gi_loopw [28] (λi wr=>∃k:Nat,k<=m+1/\i= .int .i64 k/\J (b7n (b0r (ax,ay) (bx,by_)) k) wr/\Blk wr Ba #[.int .i64 ax,.int .i64 ay] 122/\Blk wr Bb #[.int .i64 bx,.int .i64 by_] 122)
  (λi _=>m+1-(intOf i).toNat)
 case atStart=>exact⟨0,oM,rfl,h1,kA1,kB1⟩
 case round =>
  obtain⟨k,hk,rfl,hJs,kA2,kB2⟩:=hrel;have hlA:a2x (ax,ay) (bx,by_)=N:=hNe.out;by_cases hlt:k<m+1
  ·have hltI:(k:Int)<N+1:=by have:=hm.out;omega
   have c0:wr.cell? ⟨Ba,0,none⟩=some (.int .i64 ax):=kA2.cell 0;have c1:wr.cell? ⟨Ba,1,none⟩=some (.int .i64 ay):=kA2.cell 1;have lA:=kA2.lt;have lB:=kB2.lt;by_cases hNz:0<N
   ·obtain⟨s0,s1⟩:=c1b (t:=(k:Int)) (N:=N) (x:=bx-ax) oM oM oM oM oM
    obtain⟨s2,s3⟩:=c1b (t:=(k:Int)) (N:=N) (x:=by_-ay) oM oM oM oM oM;obtain⟨r0,r1⟩:=c8g (t:=(k:Int)) (N:=N) (x:=bx-ax) hNz oM oM oM oM oM;obtain⟨r2,r3⟩:=c8g (t:=(k:Int)) (N:=N) (x:=by_-ay) hNz oM oM oM oM oM;have s0 : -17592186044416<=2*(k:Int)*(bx-ax):=oM;have s1:2*(k:Int)*(bx-ax)<=17592186044416:=oM;have s2 : -17592186044416<=2*(k:Int)*(by_-ay):=oM;have s3:2*(k:Int)*(by_-ay)<=17592186044416:=oM;obtain⟨q1,e1⟩:=zE ((2*(k:Int)*(bx-ax)+N) / (2*N));obtain⟨q2,e2⟩:=zE ((2*(k:Int)*(by_-ay)+N) / (2*N));have hv:a2p (ax,ay) (bx,by_) k=(ax+q1,ay+q2):=by rw[a9e hlA hNz,<-e1,<-e2]
    rw[e1]at r0 r1;rw[e2]at r2 r3;have hfit:a7h (a2p (ax,ay) (bx,by_) k):=by rw[hv];exact⟨⟨oM,oM⟩,⟨oM,oM⟩⟩
    have hval:(b0r (ax,ay) (bx,by_) k).1=(ax+q1,ay+q2):=(b1t hfit).trans hv;clear hfit hv;replace e1:=Lib.hid e1;replace e2:=Lib.hid e2;replace hlA:=Lib.hid hlA;gi_wp2;refine wpIn_wide.2 ?_;first|with_reducible refine a0f 25 zM zM ?_|with_reducible refine a0i 25 zM zM ?_
    simp only[zT];repeat(first|go_big_quiet_step ((go_at_call 140;exact Calls.grow_of_same (b0y (by first|with_reducible exact e1.out|with_reducible exact e2.out) _ oM oM oM)))|quiet_step ((go_at_call 140;exact Calls.grow_of_same (b0y (by first|with_reducible exact e1.out|with_reducible exact e2.out) _ oM oM oM))))
    refine wpQuiet_nil ?_;intro _ hw_;obtain⟨p,hw_⟩:=hw_;subst hw_;go_wp2_with fail;have hB3:RowKit.Below wr.heap.size wr ((wr.alloc (.cells #[.int .i64 (ax+q1),.int .i64 (ay+q2)] 122)).growBy p):=zC;have bX:=(Blk.new wr #[.int .i64 (ax+q1),.int .i64 (ay+q2)] 122).grow p;obtain⟨W3,hW3⟩:=zE ((wr.alloc (.cells #[.int .i64 (ax+q1),.int .i64 (ay+q2)] 122)).growBy p);rw[hW3]at hB3 bX ⊢;clear hW3;have hJ3:=hJ _ wr W3 hJs (a0s hB3);have kA3:=kA2.below hB3 lA;have kB3:=kB2.below hB3 lB;have x0:W3.cell? ⟨wr.heap.size,0,none⟩=some (.int .i64 (ax+q1)):=bX.cell 0;have x1:W3.cell? ⟨wr.heap.size,1,none⟩=some (.int .i64 (ay+q2)):=bX.cell 1;obtain⟨fn,tmps,assign,body,hy,hR⟩:=hY _ (b0r (ax,ay) (bx,by_) k) W3 hJ3 (by rw[a2s,hNe.out,hm1.out];exact hlt);rw[hval]at hy;clear s0 s1 s2 s3 r0 r1 r2 r3 c0 c1 hB3 bX;generalize wr.heap.size=Bx at *;exact ycy
   ·have hfit:a7h (a2p (ax,ay) (bx,by_) k):=by rw[a7n hlA hNz];exact⟨⟨oM,oM⟩,⟨oM,oM⟩⟩
    have hval:(b0r (ax,ay) (bx,by_) k).1=(ax,ay):=(b1t hfit).trans (a7n hlA hNz);clear hfit;replace hlA:=Lib.hid hlA;have hB3:RowKit.Below wr.heap.size wr (wr.alloc (.cells #[.int .i64 ax,.int .i64 ay] 122)):=zC;have hJ3:=hJ _ wr _ hJs (a0s hB3);have kA3:=kA2.below hB3 lA;have kB3:=kB2.below hB3 lB;obtain⟨fn,tmps,assign,body,hy,hR⟩:=hY _ (b0r (ax,ay) (bx,by_) k) _ hJ3 (by rw[a2s,hNe.out,hm1.out];exact hlt);rw[hval]at hy;exact ycy
  ·obtain rfl:k=m+1:=oM
   have hltI:¬(((m+1:Nat):Int)<N+1):=by have:=hm.out;omega
   replace hlA:=Lib.hid hlA;gi_wp2;go_end0;exact⟨⟨_,rfl⟩,.inl (by rw[hNe.out,hm1.out];exact hJs)⟩
def b8a (Ba Bb:Nat)(A B:World):Prop:=B.heap[Ba]? =A.heap[Ba]?/\B.heap[Bb]? =A.heap[Bb]?
theorem c8h {A B C:World}(h:b8a Ba Bb A B)(k:b8a Ba Bb B C):b8a Ba Bb A C:=⟨k.1.trans h.1,k.2.trans h.2⟩
theorem d5s {w:World}(ha:Ba<w.heap.size)(hb:Bb<w.heap.size)(W:World)(l:Nat)(o o':Obj)(hl:w.heap.size<=l)(_:W.heap[l]? =some o)(_:o.isCells=false)(_:o.isWalk=false):b8a Ba Bb W (W.putObj l o') :=
 ⟨World.putObj_heap_other oM,World.putObj_heap_other oM⟩
theorem c5j (n:Nat)(hn:1<=n)(Ba Bb:Nat)(a b:a0m)(ha:Near a)(hb:Near b)(w:World)
 (kA:Blk w Ba #[.int .i64 a.1,.int .i64 a.2] 122) (kB:Blk w Bb #[.int .i64 b.1,.int .i64 b.2] 122) :
 SeqStopsK Fence.wide n prog 139 #[.pointer (some ⟨Bb,0,none⟩),.pointer (some ⟨Ba,0,none⟩)] (λx:a9d=> #[a4q x.1]) (b8a Ba Bb) (λys=>ys=b7n (b0r a b) (a2x a b+1).toNat) (λ_=>True) (a2x a b+1).toNat w:=λl J Jx W hW hJ _ hY h0=>by
 obtain⟨ax,ay⟩:=a;obtain⟨bx,by_⟩:=b;obtain⟨a0,a1,a2,a3⟩:=ha;obtain⟨b0,b1,b2,b3⟩:=hb;exact d1y n hn l Ba Bb 0 ax ay bx by_ a0 a1 a2 a3 b0 b1 b2 b3 J Jx hY (λpre A A' hj hg=>hJ pre A A' none hj hg (λr e=>by cases e)) W (kA.below hW kA.lt) (kB.below hW kB.lt) h0
theorem d1z (ax ay bx by_:Int)(w:World):
 Calls prog 82 #[a4q (ax,ay),a4q (bx,by_)] w λe w'=>e= .returned (.func (.func 139) #[] #[.pointer (some ⟨w.heap.size+1,0,none⟩),.pointer (some ⟨w.heap.size,0,none⟩)]) /\
  w'=(w.alloc (.cells #[.int .i64 ax,.int .i64 ay] 122)).alloc (.cells #[.int .i64 bx,.int .i64 by_] 122):=by
 go_enter func82,ntmps82;exact yaw
theorem b1u (x y:Int)(w:World):
 Calls prog 81 #[.agg #[.int .i64 x,.int .i64 y]] w λe w'=>e= .returned (.bool (!a1f x y))/\Below w.heap.size w w':=by
 obtain⟨b,hb⟩:=zE (a1f x y);rw[hb];replace hb:=Lib.hid hb;go_enter func81,ntmps81;go_wp2_with (go_at_call 60;refine(a8c hb.out _).mono ?_;rintro e w'⟨rfl,hb_⟩;obtain⟨p,rfl⟩:=a0b hb_;clear hb_);go_ret;exact⟨by simp,zC⟩
end
section
open Go.RowKit Go.Shelf Go.Maps
attribute [local go_sem] Oper.semAt_some
variable{way:Array Value}{id:Int}{B Bm Bs Bw mb n0:Nat}{s:Sh}{W W' w:World}
def c8i (s:Sh)(id:Int)(en:List (a0m×Int))(d:a0m):List (a0m×Int) :=
 if onS s d.1 d.2&&(!b0q en d||decide (id<(a7a en d).getD 0))then b5n en d id else en
def a4r (s:Sh)(p:a0m):a0m:=(c0y s p.1,c0z s p.2)
def b3o (s:Sh)(p q:a0m):List a9d:=b7n (b0r (a4r s p) (a4r s q)) (a2x (a4r s p) (a4r s q)+1).toNat
def a3e (s:Sh)(id:Int)(en:List (a0m×Int))(l:List a9d):List (a0m×Int):=l.foldl (λen d=>c8i s id en d.1) en
structure WI (s:Sh)(id:Int)(w:World)(Bs mb Bm Bw n0:Nat)(way:Array Value)(en0:List (a0m×Int))(pre:List a9d)(W:World):Prop where
 map:∃n,n<=n0+pre.length/\MapIs W mb n (a3e s id en0 pre)
 sheet:Blk W Bs #[.int .i64 s.ax,.int .i64 s.ay,.int .i64 s.st,.int .i64 s.w,.int .i64 s.h,.int .i64 s.g] 28
 box:Blk W Bm #[.map (some mb)] 117
 way:Blk W Bw way 149
 below:Below w.heap.size w W
theorem WI.own {en0:List (a0m×Int)}(hs:Bs<B)(hm:mb<B)(hb:Bm<B)(hw:Bw<B)(hB:w.heap.size<=B):OwnFrom B (WI s id w Bs mb Bm Bw n0 way en0):=λpre X Y row h hg hr=>by
 have hne:∀b,b<B->row≠some b:=λb hb e=>by have:=(hr b e).1;omega
 obtain⟨⟨n,hn,hM⟩,h1,h2,h3,h4⟩:=h;exact⟨⟨n,hn,hM.kept hg (hne _ hm)⟩,h1.kept hg (hne _ hs),h2.kept hg (hne _ hb),h3.kept hg (hne _ hw),h4.grown hg h4.size (λk e=>Nat.le_trans hB (hr k e).1)⟩
theorem WI.grown {en0:List (a0m×Int)}{pre:List a9d}(h:WI s id w Bs mb Bm Bw n0 way en0 pre W)(hg:W.grownBy W' none):WI s id w Bs mb Bm Bw n0 way en0 pre W':=by
 obtain⟨⟨n,hn,hM⟩,h1,h2,h3,h4⟩:=h;exact⟨⟨n,hn,hM.kept hg vM⟩,h1.kept hg vM,h2.kept hg vM,h3.kept hg vM,h4.grown hg h4.size (λk e=>by cases e)⟩
theorem c4f {x y i j:Int}(hs:OkS s)(x0 : -16384<=x)(x1:x<=16384)(y0 : -16384<=y)(y1:y<=16384)(hi:c0y s x=i)(hj:c0z s y=j):Near (i,j):=by
 have h1:=c7z (a:=x-s.ax) (b:=s.st) (m:=32768) (by have:=hs.st0;omega) (by have:=hs.x1;omega) (by have:=hs.x0;omega);have h2:=c7z (a:=y-s.ay) (b:=s.st) (m:=32768) (by have:=hs.st0;omega) (by have:=hs.y1;omega) (by have:=hs.y0;omega);unfold c0y at hi;unfold c0z at hj;exact⟨by show _<=i;omega,by show i<=_;omega,by show _<=j;omega,by show j<=_;omega⟩
theorem a8f {F:Fence}{n:Nat}{P:Program}{α:Type}{g:Operand}{ps:Array Tmp}{assign body:Code}{Q:Exit->Act->World->Prop}{a:Act}(slot sbox:Nat)(encV:α->Value)(encC:α->Array Value)(ty:TypeId)
 (hro:F.round=none) (h1:1<=n) {gf:Nat} {lb:Array Value} (hg:a.eval g= .func (.func gf) #[] lb) (hFg:F.fn gf) (eg:∀args w,(callFunc gf args).run P w= .ok (.enter gf args) w)
 {encs:α->Array Value} {Kp:World->World->Prop} {S Sp:List α->Prop} {N:Nat} {w0:World} (hseq:SeqStopsK F (n-1) P gf lb encs Kp S Sp N w0)
 (hKt:∀ {A B C:World},Kp A B->Kp B C->Kp A C) (hKb:∀(W:World) (l:Nat) (o o':Obj),w.heap.size<=l->W.heap[l]? =some o->o.isCells=false->o.isWalk=false->Kp W (W.putObj l o')) (hb0:Below w0.heap.size w0 w) (hps:∀x,(encs x).size=ps.size)
 (I:List α->World->Prop) (hI:OwnFrom w.heap.size I) (h0:I [] w)
 (hassign:∀(l:Nat) (pre:List α) (x:α) (W:World) (K:Act->World->Prop),I pre W->(∀a' W',KeepsFrom w.heap.size W W'->Kp W W'->I pre W'->(∃Bx,w.heap.size<=Bx/\Blk W' Bx (encC x) ty/\a'={ tmps:=(a.tmps.setIfInBounds slot (encV x)).setIfInBounds sbox (.pointer (some ⟨Bx,0,none⟩)),defers:=[] })->K a' W') ->
  assign.wpIn (F.inRound l) (n-1-1) P (Exit.then K (λ_ _ _=>False)) { tmps:=(ps.zip (encs x)).foldl (λt (p,v)=>t.setIfInBounds p v) a.tmps,defers:=[] } W)
 (hbody:∀(l:Nat) (pre:List α) (x:α) (Bx:Nat) (W:World),I pre W->w.heap.size<=Bx->Blk W Bx (encC x) ty->pre.length<N->body.wpIn (F.inRound l) (n-1-1) P (ownPostG w.heap.size Kp I (λ_ _ _=>False) (pre++[x]) W) { tmps:=(a.tmps.setIfInBounds slot (encV x)).setIfInBounds sbox (.pointer (some ⟨Bx,0,none⟩)),defers:=[] } W)
 (hdone:∀(D:Nat) (xs:List α) (W:World),w.heap.size<=D->S xs->I xs W->W.heap[D]? =some (.deferred (some []))->Q .normal { a with defers:={ target:= .collected D,args:= #[] }::a.defers } W) :
 (Code.rangeFunc g ps assign body).wpIn F n P Q a w :=
 wpIn_rangeFunc_ownH hro h1 hg hFg eg hseq hKt hKb hb0 hps I (λ_ _ _=>False) hI (λ_=>ownFrom_pure _ _) h0
  (λx a' W=>∃Bx,w.heap.size<=Bx/\Blk W Bx (encC x) ty/\a'={ tmps:=(a.tmps.setIfInBounds slot (encV x)).setIfInBounds sbox (.pointer (some ⟨Bx,0,none⟩)),defers:=[] })
  (λx a' _ X Y row hs hg hr=>by obtain⟨Bx,k1,k2,k3⟩:=hs;exact⟨Bx,k1,c7y Bx ty (λ(_:Unit)=>encC x) () X Y row k2 hg (λr e=>(hr r e).2),k3⟩)
  hassign (λl pre x a' W _ _ hi hax hl=>by obtain⟨Bx,k1,k2,rfl⟩:=hax;exact hbody l pre x Bx W hi k1 k2 hl) hdone (λ_ _ _ _ _ _ hF _=>hF.elim)
theorem a5i {Ba Bb:Nat}{row:Option Nat}(hg:W.grownBy W' row)(ha:Ba<W.heap.size)(hb:Bb<W.heap.size)(hra:row≠some Ba)(hrb:row≠some Bb):b8a Ba Bb W W' :=
 ⟨hg.block Ba ha (λe=>hra e.symm),hg.block Bb hb (λe=>hrb e.symm)⟩
theorem b8b (s:Sh)(id:Int)(en:List (a0m×Int))(pre:List a9d)(x:a9d):a3e s id en (pre++[x])=c8i s id (a3e s id en pre) x.1:=by simp[a3e]
theorem WI.sized {Z:Nat}{en0:List (a0m×Int)}(hs:Bs<B)(hm:mb<B)(hb:Bm<B)(hw:Bw<B)(hB:w.heap.size<=B):OwnFrom B (λpre W=>WI s id w Bs mb Bm Bw n0 way en0 pre W/\Z<=W.heap.size):=λpre X Y row h hg hr =>
 ⟨WI.own hs hm hb hw hB pre X Y row h.1 hg hr,Nat.le_trans h.2 hg.size⟩
theorem c4g {a b:a0m}(ha:Near a)(hb:Near b):(a2x a b+1).toNat<=80001:=by
 have h:=c1a (a:=b.1-a.1) (b := -(b.1-a.1)) (c:=b.2-a.2) (d := -(b.2-a.2)) (m:=80000) (by have:=ha.x0;have:=hb.x1;omega) (by have:=ha.x1;have:=hb.x0;omega) (by have:=ha.y0;have:=hb.y1;omega) (by have:=ha.y1;have:=hb.y0;omega);have h2:a2x a b<=80000:=h;omega
theorem c1c (l:List (a0m×Int))(p:a0m)(x:Int):(b5n l p x).length<=l.length+1:=by unfold b5n;split <;> simp
end
section
open Go.RowKit Go.Shelf
attribute [local go_sem] Oper.semAt_some
theorem d5t (n m:Int)(hm:1<=m):(n.tmod m+m) % m=n % m:=by
 rw[Int.add_emod_right,Int.tmod_eq_emod];split
 ·rw[Int.natCast_zero,Int.sub_zero,Int.emod_emod_of_dvd _ (Int.dvd_refl m)]
 ·rw[Int.natAbs_of_nonneg oM,Int.sub_emod_right,Int.emod_emod_of_dvd _ (Int.dvd_refl m)]
theorem a5j (n m:Int)(w:World)(hn:fits n)(h1:1<=m)(h2:m<=4611686018427387904) :
 Calls prog 77 #[.int .i64 n,.int .i64 m] w λr w'=>r= .returned (.int .i64 (n % m))/\w=w':=by
 obtain⟨n0,n1⟩:=hn;have b0:=Int.lt_tmod_of_pos n (b:=m) oM;have b1:=Int.tmod_lt_of_pos n (b:=m) oM;have b2:0<=n.tmod m+m:=oM;have b3:n.tmod m+m<=9223372036854775807:=oM;have h0:(m==0)=false:=by simp;omega
 have HM:=Lib.hid (d5t n m h1);go_enter func77,ntmps77;go_wp2_with fail;go_ret;exact⟨a6b HM.out,rfl⟩
theorem a9x (n lo hi:Int)(w:World) :
 Calls prog 141 #[.int .i64 n,.int .i64 lo,.int .i64 hi] w λe w'=>e= .returned (.bool (inR lo n hi))/\w=w':=by
 go_enter func141,ntmps141;go_wp2_with fail
 all_goals
  go_ret;exact⟨by unfold inR;first|rfl|(congr 2;simp;omega),rfl⟩
theorem a6c {s:Sh}{i j:Int}:onS s i j=true↔(0<=i/\i<s.w)/\0<=j/\j<s.h:=by
 simp only[onS,inR,Bool.and_eq_true,decide_eq_true_eq];omega
theorem c8j {s:Sh}(h:(1<=s.st/\s.st<=1024)/\(1<=s.w/\s.w<=80)/\(1<=s.h/\s.h<=80)/\(1<=s.g/\s.g<=4)):a1g s=if a1f s.ax s.ay&&a1f (s.ax+s.w*s.st) (s.ay+s.h*s.st)then 0 else 10:=by
 unfold a1g;rw[if_pos];simp only[Bool.and_eq_true,a9c];omega
structure InS (s:Sh):Prop where
 a1:1<=s.st
 a2:s.st<=1024
 b1:1<=s.w
 b2:s.w<=80
 c1:1<=s.h
 c2:s.h<=80
 d1:1<=s.g
 d2:s.g<=4
def apF (a b:Int):Int:=if a<=b then(if 80<b-a then 80 else b-a)else(if 80<a-b then 80 else a-b)
structure DtRow (W:World)(b o:Nat)(d:Dt):Prop where
 c0:W.cell? ⟨b,o,none⟩=some (.int .i64 d.x)
 c1:W.cell? ⟨b,o+1,none⟩=some (.int .i64 d.y)
 c2:W.cell? ⟨b,o+2,none⟩=some (.int .i64 d.k)
 c3:W.cell? ⟨b,o+3,none⟩=some (.int .i64 d.i)
theorem DtRow.below {n₀:Nat}{A B:World}(h:Below n₀ A B){b o:Nat}{d:Dt}(hb:b<n₀)(r:DtRow A b o d):DtRow B b o d :=
 ⟨(h.cell (p:=⟨b,o,none⟩) hb).trans r.c0,(h.cell (p:=⟨b,o+1,none⟩) hb).trans r.c1,(h.cell (p:=⟨b,o+2,none⟩) hb).trans r.c2,(h.cell (p:=⟨b,o+3,none⟩) hb).trans r.c3⟩
def Dts (n₀:Nat)(W:World)(sv:Value)(l:List Dt):Prop :=
 (sv= .slice none 0 0/\l=[])\/∃b off cap,sv= .slice (some ⟨b,off,none⟩) l.length cap/\b<n₀/\l.length<=4294967296/\(∀d∈l,fits d.x/\fits d.y)/\∀j,(h:j<l.length)->DtRow W b (off+j*4) l[j]
theorem Dts.below {n₀:Nat}{A B:World}(h:Below n₀ A B){sv:Value}{l:List Dt}:Dts n₀ A sv l->Dts n₀ B sv l
 |.inl e=> .inl e
 |.inr ⟨b,off,cap,e,hb,hl,hf,hc⟩=> .inr ⟨b,off,cap,e,hb,hl,hf,λj hj=>(hc j hj).below h hb⟩
theorem Dts.mono {n₀ n₁:Nat}(h:n₀<=n₁){W:World}{sv:Value}{l:List Dt}:Dts n₀ W sv l->Dts n₁ W sv l
 |.inl e=> .inl e
 |.inr ⟨b,off,cap,e,hb,r⟩=> .inr ⟨b,off,cap,e,Nat.lt_of_lt_of_le hb h,r⟩
theorem d5u :∀(l:List Dt) (j:Nat) (h:j<l.length),(l.flatMap a2c)[j*4]? =some (.int .i64 l[j].x)/\(l.flatMap a2c)[j*4+1]? =some (.int .i64 l[j].y)/\(l.flatMap a2c)[j*4+2]? =some (.int .i64 l[j].k)/\(l.flatMap a2c)[j*4+3]? =some (.int .i64 l[j].i)
 |[],j,h=>by simp at h
 |d::l,0,_=>by simp
 |d::l,j+1,h=>by
  have ih:=d5u l j (by simpa using h);have e:(j+1)*4=j*4+1+1+1+1:=oM;rw[e];simpa[List.flatMap_cons,Nat.add_assoc]using ih
theorem b4e {base:Nat}{W:World}{v:Value}{l:List Dt}(h:W.ownsRow base 54 4 v l.length (l.flatMap a2c))(hl:l.length<=4294967296)(hf:∀d∈l,fits d.x/\fits d.y):Dts W.heap.size W v l:=by
 rcases h.2 with⟨rfl,h0⟩|⟨g,cap,cur,rfl,hbase,hgb,_⟩
 ·exact .inl ⟨rfl,List.eq_nil_of_length_eq_zero h0⟩
 ·refine .inr ⟨g,0,cap,rfl,(Array.getElem?_eq_some_iff.1 hgb).1,hl,hf,λj hj=> ?_⟩
  obtain⟨f0,f1,f2,f3⟩:=d5u l j hj;rw[Nat.zero_add];exact⟨(h.cellAt _ oM).trans f0,(h.cellAt _ oM).trans f1,(h.cellAt _ oM).trans f2,(h.cellAt _ oM).trans f3⟩
def apD (d e:Dt):Int:=if apF d.y e.y>apF d.x e.x then apF d.y e.y else apF d.x e.x
def c1d (m:Int)(d e:Dt):Int:=if apD d e<m then apD d e else m
def a4j (d:Dt)(m:Int)(b:List Dt):Int:=b.foldl (λm e=>c1d m d e) m
def a4w (a b:List Dt):Int:=a.foldl (λm d=>a4j d m b) 80
theorem c1e {d:Dt}{m:Int}{b:List Dt}{k:Nat}(h:k<b.length):a4j d m (b.take (k+1))=c1d (a4j d m (b.take k)) d b[k]:=by
 unfold a4j;rw[List.take_add_one,List.getElem?_eq_getElem h,List.foldl_append];rfl
theorem c1f {a b:List Dt}{k:Nat}(h:k<a.length):a4w (a.take (k+1)) b=a4j a[k] (a4w (a.take k) b) b:=by
 unfold a4w;rw[List.take_add_one,List.getElem?_eq_getElem h,List.foldl_append];rfl
theorem Dts.open_ {n₀:Nat}{W:World}{sv:Value}{l:List Dt}(h:Dts n₀ W sv l):l.length<=4294967296/\∃a cap,sv= .slice a l.length cap/\∀j,(h:j<l.length)->∃b off,a=some ⟨b,off,none⟩/\b<n₀/\DtRow W b (off+j*4) l[j]/\fits l[j].x/\fits l[j].y:=by
 rcases h with⟨rfl,rfl⟩|⟨b,off,cap,rfl,hb,hl,hf,hc⟩
 ·exact⟨by simp,none,0,rfl,λj hj=>by simp at hj⟩
 ·exact⟨hl,_,cap,rfl,λj hj=>⟨b,off,rfl,hb,hc j hj,hf _ (List.getElem_mem hj)⟩⟩
theorem a4x (c:Int)(b:Bool)(hb:(decide (48<=c)&&decide (c<=57))=b)(w:World):Calls prog 119 #[.int .u8 c] w λe w'=>e= .returned (.bool b)/\w=w':=by
 subst hb;go_enter func119,ntmps119;exact yjr
def one :ByteArray:=⟨#[49]⟩
def a2m :Array Value:= #[.string ⟨#[119,105,116,104]⟩,.string ⟨#[116,104,101]⟩,.string ⟨#[97,110,100]⟩,.string ⟨#[102,111,114]⟩,.string ⟨#[105,110,103]⟩,.string ⟨#[111,102]⟩,.string ⟨#[99,104]⟩,.string ⟨#[115,104]⟩,.string ⟨#[116,104]⟩,.string ⟨#[115,116]⟩,.string ⟨#[101,114]⟩]
def wordsL :List ByteArray:=[⟨#[119,105,116,104]⟩,⟨#[116,104,101]⟩,⟨#[97,110,100]⟩,⟨#[102,111,114]⟩,⟨#[105,110,103]⟩,⟨#[111,102]⟩,⟨#[99,104]⟩,⟨#[115,104]⟩,⟨#[116,104]⟩,⟨#[115,116]⟩,⟨#[101,114]⟩]
theorem a6d (w:World):Calls prog 115 #[] w λe w'=>e= .returned (.slice (some ⟨w.heap.size,0,none⟩) 11 11)/\w'=w.alloc (.cells a2m 9):=by
 go_enter func115,ntmps115;exact yaw
theorem sizeBuilder :(prog.info? 178).map (·.size)=some 2:=by kernel_rfl
theorem liesBuilder :liesAt prog prog.depth 178 (2 / prog.cellsOf 178) 0 178 1=true:=by kernel_rfl
theorem b3p (b:Nat)(w:World)(h0:w.cell? ⟨b,0,none⟩=some (.pointer (some ⟨b,0,none⟩))) :
 Calls prog 157 #[.pointer (some ⟨b,0,none⟩)] w λe w'=>e= .returned (.tuple #[])/\w'=w:=by
 obtain⟨j,hj,_⟩:=Option.map_eq_some_iff.1 sizeBuilder;go_enter func157,ntmps157;go_wp2
 rw[Lib.run_neq_ptr_same w _ underlying176 hj];go_wp2
 go_end0;exact⟨rfl,rfl⟩
theorem b1v (b:Nat)(w:World)(h0:w.cell? ⟨b,0,none⟩=some (.pointer none))(hsh:w.shape? b=some (178,2))(hfz:w.frozen? ⟨b,0,none⟩=false) :
 Calls prog 157 #[.pointer (some ⟨b,0,none⟩)] w λe w'=>e= .returned (.tuple #[])/\w'=w.setCell ⟨b,0,none⟩ (.pointer (some ⟨b,0,none⟩)):=by
 obtain⟨j,hj,hjs⟩:=Option.map_eq_some_iff.1 sizeBuilder;go_enter func157,ntmps157;go_wp2
 rw[Lib.run_to_unsafe w ⟨b,0,none⟩ underlying176 underlying232 hj (by rw[hjs];decide) hsh (Nat.zero_lt_succ 1)];simp only[Result.andThen];rw[Oper.upon_value];go_wp2
 rw[run_callFunc_extern func173 zM zM zM (e:=Extern.AbiNoEscape.same) zM];rw[Lib.run_noEscape];simp only[Result.andThen];rw[Oper.upon_value];go_wp2
 rw[Lib.run_from_unsafe w ⟨b,0,none⟩ underlying232 underlying176 hj hsh liesBuilder];simp only[Result.andThen];rw[Oper.upon_value];go_wp2
 go_end0;exact⟨rfl,rfl⟩
theorem infoByte :(prog.info? 5).map (λi=>(i.zero,i.size,i.bytes))=some (some (.int .u8 0),1,1):=by kernel_rfl
theorem a7i :∃i,prog.info? 5=some i/\i.zero=some (.int .u8 0)/\i.size=1/\i.bytes=1:=by
 obtain⟨i,hi,h⟩:=Option.map_eq_some_iff.1 infoByte;simp only[Prod.mk.injEq]at h;exact⟨i,hi,h.1,h.2.1,h.2.2⟩
theorem c1g (B b:Nat)(bs:List Value)(w:World)(h:Lib.IsBuilderF 178 5 B b bs w) :
 Calls prog 157 #[.pointer (some ⟨b,0,none⟩)] w λe w'=>e= .returned (.tuple #[])/\(Lib.BuilderAtF 178 5 B b (.pointer (some ⟨b,0,none⟩)) bs w'/\Below B w w'/\Lib.OthersKept 5 (some b) w w'):=by
 rcases h with h|h
 ·refine(b1v b w h.cell0 h.shape h.frozen0).mono ?_
  rintro e w'⟨rfl,rfl⟩;exact⟨rfl,h.used _,(zR B w).setCell (p:=⟨b,0,none⟩) h.1 _,(Lib.OthersKept.refl _ _ w).setCell ⟨b,0,none⟩ rfl _⟩
 ·refine(b3p b w h.cell0).mono ?_
  rintro e w'⟨rfl,rfl⟩;exact⟨rfl,h,zR B _,Lib.OthersKept.refl _ _ _⟩
theorem c1h (B b:Nat)(bs:List Value)(c:Int)(w:World)(h:Lib.IsBuilderF 178 5 B b bs w)(hlen:bs.length+1<=140737488355328)(hBw:B<=w.heap.size) :
 Calls prog 118 #[.pointer (some ⟨b,0,none⟩),.int .u8 c] w λe w'=>e= .returned .nilIface/\(Lib.BuilderAtF 178 5 B b (.pointer (some ⟨b,0,none⟩)) (bs++[.int .u8 c]) w'/\Below B w w'/\Lib.OthersKept 5 (some b) w w'):=by
 obtain⟨i0,hi,hz0,hz1,hz2⟩:=a7i;go_enter func118,ntmps118;go_wp2_with (go_at_call 157;refine(c1g B b bs _ h).mono ?_);rintro e w1⟨rfl,h1,hb1,hk1⟩;obtain⟨hB,v,hbk,hown,hne⟩:=h1;have c0:w1.cell? ⟨b,0,none⟩=some (.pointer (some ⟨b,0,none⟩)):=by rw[Lib.cell_of_heap hbk];rfl
 have c1:w1.cell? ⟨b,1,none⟩=some v:=by rw[Lib.cell_of_heap hbk];rfl
 go_wp2_with (at_builtin;refine wpList_append_ownF _ rfl _ _ 116 rfl B 5 i0 (.int .u8 0) 1 1 underlying116 hi hz0 hz1 hz2 rfl jM _ _ _ rfl (hown.alloc _) ⟨w1.heap.size,0,none⟩ 1 1 [.int .u8 c] rfl rfl ?c1 ?c2 ?c3 ?c4 ?c5 ?_)
 case c1 =>
  intro j u hj;match j,hj with
  |0,hj=>simp at hj;subst hj;simp[Addr.add]
 case c2=>intro u hu;simp at hu;subst hu;rfl
 case c3=>unfold maxLen;omega
 case c4=>omega
 case c5=>have:=hb1.size;simp;omega
 intro v' w2 hown' hgrow _;have hlt:b<w1.heap.size:=by
  rcases Nat.lt_or_ge b w1.heap.size with h'|h'
  ·exact h'
  ·simp[Array.getElem?_eq_none h']at hbk
 have hb2:w2.heap[b]? =some (.cells #[.pointer (some ⟨b,0,none⟩),v] 178 (0,0)):=by
  rw[hgrow.block b uM (λe=>hne e.symm),Lib.alloc_old w1 _ b hlt];exact hbk
 have d0:w2.cell? ⟨b,0,none⟩=some (.pointer (some ⟨b,0,none⟩)):=by rw[Lib.cell_of_heap hb2];rfl
 have d1:w2.cell? ⟨b,1,none⟩=some v:=by rw[Lib.cell_of_heap hb2];rfl
 have f1:w2.frozen? ⟨b,1,none⟩=false:=Lib.frozen_of_heap hb2 1;obtain⟨g,cap,rfl⟩:∃g cap,v'= .slice (some ⟨g,0,none⟩) (bs.length+1) cap:=by
  rcases hown'.2 with⟨_,h0⟩|⟨g,cap,cur,fz,hv,_⟩
  ·omega
  ·exact⟨g,cap,hv⟩
 go_wp2
 go_ret;refine⟨rfl,?_,?_,((hk1.alloc _).grown hgrow (Lib.ownsRowF_kind (hown.alloc _))).setCell ⟨b,1,none⟩ rfl _⟩
 ·exact Lib.BuilderAtF.put (T:=178) (e:=5) hB hb2 (bs':=bs++[.int .u8 c]) (by simpa using hown') jM
 ·exact((hb1.alloc (by have:=hb1.size;omega) _).grown hgrow (by have:=hb1.size;simp;omega) (λk hk=>(hown.lt k hk).1)).setCell (p:=⟨b,1,none⟩) hB _
structure BW (B sb b kb:Nat)(s:ByteArray)(k:Int)(l:List UInt8)(w0 w:World):Prop where
 below:Below B w0 w
 sbk:w.heap[sb]? =some (.cells #[.string s] 9 (0,0))
 kbk:w.heap[kb]? =some (.cells #[.int .i64 k] 3 (0,0))
 bld:Lib.IsBuilderF 178 5 B b (Lib.byteCells l) w
 kB:B<=kb
 neb:kb≠b
 nes:sb≠b
 nek:sb≠kb
theorem a4y {w:World}{k:Nat}{o:Obj}(h:w.heap[k]? =some o):k<w.heap.size:=(Array.getElem?_eq_some_iff.1 h).1
section
variable {B sb b kb:Nat}{s:ByteArray}{k:Int}{l:List UInt8}{w0 w:World}
theorem BW.le (h:BW B sb b kb s k l w0 w):B<=w.heap.size:=Nat.le_of_lt (Nat.lt_of_le_of_lt h.kB (a4y h.kbk))
theorem BW.alloc (h:BW B sb b kb s k l w0 w)(o:Obj):BW B sb b kb s k l w0 (w.alloc o) where
 below:=h.below.alloc h.le o
 sbk:=by rw[Lib.alloc_old w o sb (a4y h.sbk)];exact h.sbk
 kbk:=by rw[Lib.alloc_old w o kb (a4y h.kbk)];exact h.kbk
 bld:=h.bld.alloc o
 kB:=h.kB
 neb:=h.neb
 nes:=h.nes
 nek:=h.nek
theorem BW.drewN (h:BW B sb b kb s k l w0 w)(n:Nat):BW B sb b kb s k l w0 (w.drewN n) where
 below:=below_drewN' h.below n
 sbk:=h.sbk
 kbk:=h.kbk
 bld:=h.bld
 kB:=h.kB
 neb:=h.neb
 nes:=h.nes
 nek:=h.nek
theorem BW.cs (h:BW B sb b kb s k l w0 w):w.cell? ⟨sb,0,none⟩=some (.string s):=by rw[Lib.cell_of_heap h.sbk];rfl
theorem BW.ck (h:BW B sb b kb s k l w0 w):w.cell? ⟨kb,0,none⟩=some (.int .i64 k):=by rw[Lib.cell_of_heap h.kbk];rfl
theorem BW.fk (h:BW B sb b kb s k l w0 w):w.frozen? ⟨kb,0,none⟩=false:=Lib.frozen_of_heap h.kbk 0
theorem BW.byte (h:BW B sb b kb s k l w0 w)(c:UInt8)(hl:l.length+1<=140737488355328) :
 Calls prog 118 #[.pointer (some ⟨b,0,none⟩),.int .u8 c.toNat] w λe w'=>e= .returned .nilIface/\BW B sb b kb s k (l++[c]) w0 w':=by
 refine(c1h B b (Lib.byteCells l) c.toNat w h.bld (by rw[Lib.byteCells_length];exact hl) h.le).mono ?_;rintro e w'⟨rfl,h1,h2,h3⟩;refine⟨rfl,h.below.trans h2,h3 sb _ h.sbk (λe=>h.nes (Option.some.inj e)) (λc fz e=>by cases e),h3 kb _ h.kbk (λe=>h.neb (Option.some.inj e)) (λc fz e=>by cases e),?_,h.kB,h.neb,h.nes,h.nek⟩;rw[show Lib.byteCells (l++[c])=Lib.byteCells l++[.int .u8 c.toNat]from by simp[Lib.byteCells]];exact .inr h1
theorem BW.newk (h:BW B sb b kb s k l w0 w)(k':Int):BW B sb b w.heap.size s k' l w0 (w.alloc (.cells #[.int .i64 k'] 3)) where
 below:=h.below.alloc h.le _
 sbk:=by rw[Lib.alloc_old w _ sb (a4y h.sbk)];exact h.sbk
 kbk:=heap_alloc_last w _
 bld:=h.bld.alloc _
 kB:=h.le
 neb:=by
  have hb:b<w.heap.size:=by rcases h.bld with h1|h1 <;> exact h1.lt
  omega
 nes:=h.nes
 nek:=Nat.ne_of_lt (a4y h.sbk)
end
theorem c4h {p:ByteArray->Bool}:∀(zs:List ByteArray) (i:Nat),(∀x∈zs,p x=false)->Lib.idxByFrom (λ_ y=>p y) default zs i = -1
 |[],_,_=>rfl
 |y::r,i,h=>by
  unfold Lib.idxByFrom;rw[h y (List.mem_cons_self ..)];exact c4h r (i+1) (λx hx=>h x (List.mem_cons_of_mem _ hx))
theorem a0j {P:Program}{ops:Array Oper}{rest:List Oper}{o:Oper}{a:Act}{w:World}{Q:Exit->Act->World->Prop}(hg:o.guard=none)(t:TypeId)(x y:Operand)(ho:o.op= .index t x y)(s:ByteArray)(k:IntKind)(i:Int)(hx:a.eval x= .string s)(hy:a.eval y= .int k i)
 (hu:P.underlying t=some .string) (c:Int) (h0:0<=i) (h1:i<s.size) (hc:((s[i.toNat]'(by omega)).toNat:Int)=c) (h:wpList P ops Q rest (a.put o.dst (.int .u8 c)) w):wpList P ops Q (o::rest) a w:=by
 refine wpList_plain hg λK hK=> ?_
 unfold Oper.wp execOp;simp only[ho,hx,hy,Sem.run_bind,run_index_string w t s k i hu];rw[dif_pos ⟨h0,h1⟩];simp only[Result.andThen_ok,Sem.run_pure];subst hc;exact hK _ _ h
theorem BW.start (w:World)(s:ByteArray)(p:Growth) :
 BW w.heap.size w.heap.size (w.heap.size+1+p.objs.size) (w.heap.size+1+p.objs.size+1) s 0 [] w
  ((((w.alloc (.cells #[.string s] 9)).growBy p).alloc (.cells #[.pointer none,.slice none 0 0] 178)).alloc (.cells #[.int .i64 0] 3)):=by
 obtain⟨W,hW⟩:=zE ((w.alloc (.cells #[.string s] 9)).growBy p);have hs:W.heap.size=w.heap.size+1+p.objs.size:=by rw[<-hW];simp
 have hh:W.heap[w.heap.size]? =some (.cells #[.string s] 9 (0,0)):=by
  rw[<-hW,World.heap_growBy _ _ vM];exact heap_alloc_last w _
 have hbl:Below w.heap.size w W:=by rw[<-hW];exact zC
 rw[hW,<-hs];have hs2:(W.alloc (.cells #[.pointer none,.slice none 0 0] 178)).heap.size=W.heap.size+1:=by simp
 refine⟨(hbl.alloc oM _).alloc (by rw[hs2];omega) _,?_,?_,?_,oM,oM,oM,oM⟩
 ·rw[Lib.alloc_old _ _ _ (by rw[hs2];omega),Lib.alloc_old _ _ _ oM];exact hh
 ·rw[<-hs2];exact heap_alloc_last _ _
 ·refine Lib.IsBuilderF.alloc (.inl ⟨oM,.slice none 0 0,heap_alloc_last _ _,⟨rfl,.inl ⟨rfl,rfl⟩⟩,by simp[Value.ownBlock]⟩) _
theorem BW.byte' {B sb b kb:Nat}{s:ByteArray}{k:Int}{l:List UInt8}{w0 w:World}(h:BW B sb b kb s k l w0 w)(u:UInt8)(c:Int)(hc:(u.toNat:Int)=c)(hl:l.length+1<=140737488355328) :
 Calls prog 118 #[.pointer (some ⟨b,0,none⟩),.int .u8 c] w λe w'=>e= .returned .nilIface/\BW B sb b kb s k (l++[u]) w0 w':=by
 subst hc;exact h.byte u hl
def symC :Array Value:= #[.bool true,.bool true,.bool true,.bool true,.bool false,.bool true,.bool true,.bool true,.bool true,.bool false,.bool true,.bool false,.bool true,.bool true,.bool true,.bool false,.bool true,.bool false,.bool true,.bool false,.bool true,.bool false,.bool true,.bool false,.bool true,.bool false,.bool true,.bool true,.bool true,.bool true,.bool true,.bool true,.bool true,.bool true,.bool true,.bool true,.bool false,.bool false,.bool false,.bool true,.bool true,.bool true,.bool false,.bool false,.bool false,.bool false,.bool true,.bool false,.bool false,.bool true,.bool false,.bool false,.bool true,.bool false,.bool true,.bool false,.bool true,.bool false,.bool false,.bool false,.bool true,.bool false,.bool true]
def e0r :Array Value:= #[.bool false,.bool false,.bool false,.bool false,.bool false,.bool false,.bool false,.bool false,.bool false,.bool false,.bool false,.bool false,.bool false,.bool false,.bool false,.bool false,.bool false,.bool false,.bool false,.bool false,.bool false,.bool false,.bool false,.bool false,.bool false,.bool false,.bool false,.bool false,.bool false,.bool false,.bool false,.bool false,.bool false,.bool false,.bool false,.bool false,.bool false,.bool false,.bool false,.bool false,.bool false,.bool false,.bool false,.bool false,.bool false,.bool false,.bool false,.bool false,.bool false,.bool false,.bool false,.bool false,.bool false,.bool false,.bool false,.bool false,.bool false,.bool false,.bool false,.bool false,.bool false,.bool false,.bool false]
theorem b1w {P:Program}{ops:Array Oper}{rest:List Oper}{o:Oper}{a:Act}{w:World}{Q:Exit->Act->World->Prop}(hg:o.guard=none)(t:TypeId)(parts:Array (Nat×Operand))(ho:o.op= .build t parts)(cells:Array Value)
 (hc:P.built t (parts.map λ(i,x)=>(i,a.eval x)).toList=some cells) (h:wpList P ops Q rest (a.put o.dst (.agg cells)) w):wpList P ops Q (o::rest) a w :=
 wpList_build hg t parts ho (by rw[hc];rfl) (by rw[hc];exact h)
theorem c1i (w:World):Calls prog 63 #[] w λe w'=>e= .returned (.agg symC)/\Below w.heap.size w w':=by
 have hi:(prog.info? 119).map (·.size)=some symC.size:=by kernel_rfl
 have hz:∀w,(zeroValue 119).run prog w= .ok (.agg e0r) w:=λw=>by kernel_rfl
 go_enter func63,ntmps63;go_wp2_with (first|(refine b1w qM 119 _ qM symC zM ?_)|(refine wpList_store_row qM 119 _ _ qM w.heap.size symC qM qM 119 e0r (heap_alloc_last w _) zM qM (by decide +kernel) ?_;rw[World.setRow_alloc_new]));exact bodyPost_ret (results_cell_row qM _ _ w.heap.size 119 symC (0,0) _ qM (heap_alloc_last w _) underlying119 qM hi) rfl ⟨rfl,zC⟩
end
section
open Go.RowKit Go.Shelf Go.Maps
attribute [local go_sem] Oper.semAt_some
def b0z (l:List UInt8):Int:=(l.map λc=>(c.toNat:Int)).sum
theorem b8c (l:List UInt8)(c:UInt8):b0z (l++[c])=b0z l+c.toNat:=by simp[b0z]
theorem c1j (l:List UInt8):0<=b0z l/\b0z l<=255*l.length:=by
 induction l with
 |nil=>simp[b0z]
 |cons c l ih =>
  have h:b0z (c::l)=c.toNat+b0z l:=by simp[b0z]
  have:=c.toNat_lt;rw[h];simp only[List.length_cons];omega
theorem b4f (s:ByteArray)(k:Nat)(h:k<s.size):s.data.toList.take (k+1)=s.data.toList.take k++[s[k]]:=by
 rw[List.take_succ_eq_append_getElem (by simpa using h)];rfl
theorem b8d (s:ByteArray)(cap k:Nat)(h:k<s.size):(bytesRow s cap)[k]? =some (.int .u8 (s[k]).toNat):=by
 unfold bytesRow;have h2:k<(s.data.map (λb=>Value.int .u8 b.toNat)).size:=by simpa using h
 rw[Array.getElem?_append_left h2,Array.getElem?_eq_getElem h2];simp;rfl
def a4u (m k:Nat):Bool:=match symC[m*9+k]? with|some (.bool b)=>b|_=>false
def d9i (m:Nat):Array Value:= #[.bool (a4u m 0),.bool (a4u m 1),.bool (a4u m 2),.bool (a4u m 3),.bool (a4u m 4),.bool (a4u m 5),.bool (a4u m 6),.bool (a4u m 7),.bool (a4u m 8)]
theorem d2a (m:Nat)(hm:m<7)(w:World):(Instr.index 119 (.agg symC) (.int .i64 m)).run prog w= .ok (.agg (d9i m)) w:=by
 rcases(show m=0\/m=1\/m=2\/m=3\/m=4\/m=5\/m=6 from oM)with rfl|rfl|rfl|rfl|rfl|rfl|rfl <;> kernel_rfl
theorem d2b (r:Nat->Bool)(k:Nat)(hk:k<9)(w:World):(Instr.index 118 (.agg #[.bool (r 0),.bool (r 1),.bool (r 2),.bool (r 3),.bool (r 4),.bool (r 5),.bool (r 6),.bool (r 7),.bool (r 8)]) (.int .i64 k)).run prog w= .ok (.bool (r k)) w:=by
 rcases(show k=0\/k=1\/k=2\/k=3\/k=4\/k=5\/k=6\/k=7\/k=8 from oM)with rfl|rfl|rfl|rfl|rfl|rfl|rfl|rfl|rfl <;> kernel_rfl
theorem d2c (r:Nat->Bool)(k:Nat)(hk:k<6)(w:World):(Instr.index 126 (.agg #[.bool (r 0),.bool (r 1),.bool (r 2),.bool (r 3),.bool (r 4),.bool (r 5)]) (.int .i64 k)).run prog w= .ok (.bool (r k)) w:=by
 rcases(show k=0\/k=1\/k=2\/k=3\/k=4\/k=5 from oM)with rfl|rfl|rfl|rfl|rfl|rfl <;> kernel_rfl
theorem a2a {P:Program}{ops:Array Oper}{rest:List Oper}{o:Oper}{a:Act}{w:World}{Q:Exit->Act->World->Prop}(hg:o.guard=none)(t:TypeId)(x y:Operand)(ho:o.op= .index t x y)(vx vy v:Value)(hx:a.eval x=vx)(hy:a.eval y=vy)
 (hv:(Instr.index t vx vy).run P w= .ok v w) (h:wpList P ops Q rest (a.put o.dst v) w):wpList P ops Q (o::rest) a w:=by
 refine wpList_plain hg λK hK=> ?_
 unfold Oper.wp execOp;simp only[ho,hx,hy,Sem.run_bind,hv];simp only[Result.andThen_ok,Sem.run_pure];exact hK _ _ h
def upE (up:Bool)(en:List (a0m×Int))(p:a0m)(id:Int):List (a0m×Int):=if up then b5n en p id else en
def a9f (i j:Int)(k:Nat):a0m:=(i+(k:Int).tmod 3-1,j+(k:Int).tdiv 3-1)
def c8k (i j id:Int)(r:Nat->Bool):Nat->List (a0m×Int)
 |0=>[]
 |k+1=>upE (r k) (c8k i j id r k) (a9f i j k) id
def b1a (i j:Int)(k n:Nat):a0m:=(i+3+3*k+(n:Int).tdiv 3,j+1-(n:Int).tmod 3)
def d1h (i j id:Int)(k:Nat)(d:Nat->Bool)(en:List (a0m×Int)):Nat->List (a0m×Int)
 |0=>en
 |n+1=>upE (d n) (d1h i j id k d en n) (b1a i j k n) id
def b1x (i j id:Int)(D:Nat->Nat->Bool)(en:List (a0m×Int)):Nat->List (a0m×Int)
 |0=>en
 |k+1=>d1h i j id k (D k) (b1x i j id D en k) 6
def a6e (i j id:Int)(r:Nat->Bool)(D:Nat->Nat->Bool)(n:Nat):List (a0m×Int):=b1x i j id D (c8k i j id r 9) n
abbrev shC (s:Sh):Array Value:= #[.int .i64 s.ax,.int .i64 s.ay,.int .i64 s.st,.int .i64 s.w,.int .i64 s.h,.int .i64 s.g]
structure PI (s:Sh)(pl:Array Value)(w:World)(Bs Bp mb n:Nat)(en:List (a0m×Int))(W:World):Prop where
 map:∃k,k<=n/\MapIs W mb k en
 sheet:Blk W Bs (shC s) 28
 place:Blk W Bp pl 66
 below:Below w.heap.size w W
 le:w.heap.size<=mb
 nes:Bs≠mb
 nep:Bp≠mb
section
variable {s:Sh}{pl:Array Value}{w W:World}{Bs Bp mb n:Nat}{en:List (a0m×Int)}
theorem PI.grown {W':World}(h:PI s pl w Bs Bp mb n en W)(hg:W.grownBy W' none):PI s pl w Bs Bp mb n en W':=by
 obtain⟨⟨k,hk,hM⟩,h1,h2,h3,h4,h5,h6⟩:=h;exact⟨⟨k,hk,hM.kept hg vM⟩,h1.kept hg vM,h2.kept hg vM,h3.grown hg h3.size (λk e=>by cases e),h4,h5,h6⟩
theorem PI.grow (h:PI s pl w Bs Bp mb n en W)(p:Growth):PI s pl w Bs Bp mb n en (W.growBy p):=h.grown (a0q W p)
theorem PI.up {n':Nat}(h:PI s pl w Bs Bp mb n en W)(hn:n<=n'):PI s pl w Bs Bp mb n' en W:=by
 obtain⟨⟨k,hk,hM⟩,h1,h2,h3,h4,h5,h6⟩:=h;exact⟨⟨k,oM,hM⟩,h1,h2,h3,h4,h5,h6⟩
theorem PI.put {W':World}{D:DataW Unit}{k:Nat}{p:a0m}{x:Int}(h:PI s pl w Bs Bp mb n en W)(hk:k<=n)(hD:IsMap D)(h1:(en.map (·.1)).Nodup)(h2:∀e∈en,a7h e.1)
 (h3:∀p,a7h p->has D (klS p)=b0q en p/\D.atKey (klS p) (.lit (.int .i64 0))= .lit (.int .i64 ((a7a en p).getD 0))) (hp:a7h p)
 (ho:W'.ownsMap prog 122 (plainElem prog 3) mb (k+1) (D.put (klS p) (.lit (.int .i64 x)))) (hg:W.grownBy W' (some mb)):PI s pl w Bs Bp mb (n+1) (b5n en p x) W' :=
 ⟨⟨k+1,oM,MapIs.store (W:=W) hD h1 h2 h3 hp ho⟩,h.sheet.kept hg (λe=>h.nes (Option.some.inj e).symm),h.place.kept hg (λe=>h.nep (Option.some.inj e).symm),h.below.grown hg h.below.size (λk e=>by cases e;exact h.le),h.le,h.nes,h.nep⟩
theorem PI.turn {W':World}{q:Nat}(h:PI s pl w Bs Bp mb n en W)(hg:W.grownBy W' (some q))(h1:q≠Bs)(h2:q≠Bp)(h3:q≠mb)(h4:w.heap.size<=q):PI s pl w Bs Bp mb n en W':=by
 obtain⟨⟨k,hk,hM⟩,k1,k2,k3,k4,k5,k6⟩:=h;exact⟨⟨k,hk,hM.kept hg (λe=>h3 (Option.some.inj e))⟩,k1.kept hg (λe=>h1 (Option.some.inj e)),k2.kept hg (λe=>h2 (Option.some.inj e)),k3.grown hg k3.size (λk e=>by cases e;exact h4),k4,k5,k6⟩
end
theorem b4g (u:Bool)(en:List (a0m×Int))(p:a0m)(id:Int):(upE u en p id).length<=en.length+1:=by
 unfold upE;split
 ·exact c1c _ _ _
 ·omega
theorem b1y (i j id:Int)(r:Nat->Bool):∀k,(c8k i j id r k).length<=k
 |0=>yR _
 |k+1=>Nat.le_trans (b4g _ _ _ _) (by have:=b1y i j id r k;omega)
theorem b1z (i j id:Int)(k:Nat)(d:Nat->Bool)(en:List (a0m×Int)):∀n,(d1h i j id k d en n).length<=en.length+n
 |0=>yR _
 |n+1=>Nat.le_trans (b4g _ _ _ _) (by have:=b1z i j id k d en n;omega)
theorem a9y (i j id:Int)(D:Nat->Nat->Bool)(en:List (a0m×Int)):∀k,(b1x i j id D en k).length<=en.length+6*k
 |0=>yR _
 |k+1=>Nat.le_trans (b1z i j id k (D k) _ 6) (by have:=a9y i j id D en k;omega)
end
end Go.Proofs.YtfocdbjceedagaaGreatDoor
