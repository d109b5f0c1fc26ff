/-
  Parts.
-/
import Derived.Test.YtfocdbjceedagaaGreatDoorCab
set_option linter.unusedVariables false
set_option linter.unusedSimpArgs false
set_option maxHeartbeats 8000000
set_option maxRecDepth 100000
namespace Go.Proofs.YtfocdbjceedagaaGreatDoor
open Tryz
section
open Go.RowKit Go.Shelf Go.Sort Go.Lib Go.Maps
variable{b n:Nat}{W:Wd}
theorem b4o (Bm b nn:Nat)(en:List (a0l×Int))(w:Wd)(uY:Bm<w.heap.size)(hm:w.cell? ⟨Bm,0,none⟩=some (.map (some b)))(hM:MapIs w b nn en)(iQ:nn<=4294967296)(av:en≠[])(hlen:en.length<=4294967296):
 Calls prog 123 #[.func (.func 162) #[] #[.pointer (some ⟨Bm,0,none⟩)],.func (.func 125) #[] #[]] w λe w'=>∃v,e= .returned v/\RowS w.heap.size w' v (a2y en)/\Below w.heap.size w w':=by
 have eg:∀args w,(callFunc 162 args).run prog w= .ok (.enter 162 args) w:=enters_of func162 zM rfl;have il:(en.map (·.1)).Nodup:=by obtain⟨D,_,h,_⟩:=hM;exact h
 have qj:=(callsIn_wide (n:=3)).1 (b5b _ 3 trivial trivial rfl (yR _) 162 #[.pointer (some ⟨Bm,0,none⟩)] trivial eg _ _ nn iQ w (b5a _ 1 trivial rfl (yR _) Bm b nn en w uY hm hM));go_enter func123,ntmps123;go_wp2_with (go_at_call 160;refine qj.mono ?_;rintro e w1⟨v,ss,rfl,⟨fB,cH⟩,ae,iO,aw⟩);clear qj;have hp:=b5d il fB cH;have hl:=hp.length_eq;rw[a3f]at hl;have jo:ss≠[]:=λe=>by
  rw[e]at hl;exact av (List.eq_nil_of_length_eq_zero hl.symm)
 clear fB cH iO;have gA:=b8w w.heap.size v ss en w1 ae jo hp oM;go_wp2_with (go_at_call 161;refine gA.mono ?_;rintro e w2⟨rfl,bB,az⟩);go_ret;exact⟨v,rfl,bB,aw.trans az⟩
structure Dt where
 x:Int
 y:Int
 k:Int
 i:Int
deriving DecidableEq
abbrev a2k (d:Dt):List Value:=[.int .i64 d.x,.int .i64 d.y,.int .i64 d.k,.int .i64 d.i]
def a1k (kind:Int)(en:List (a0l×Int)):List Dt:=(a2y en).map λp=>⟨p.1,p.2,kind,(a7q en p).getD 0⟩
theorem a3z (kind:Int)(en:List (a0l×Int)):(a1k kind en).length=en.length:=by unfold a1k;rw[List.length_map,a3f]
theorem b2j:(prog.info? 54).map (λi=>(i.zero,i.size,i.bytes))=some (some (.agg #[.int .i64 0,.int .i64 0,.int .i64 0,.int .i64 0]),4,32):=by kernel_rfl
theorem MapIs.look {en:List (a0l×Int)}(h:MapIs W b n en){p:a0l}(hp:a7v p):
 (Instr.lookup 117 (.map (some b)) (a5b p) false).run prog W= .ok (.int .i64 ((a7q en p).getD 0)) W:=by
 obtain⟨D,ho,-,-,hk⟩:=h;obtain⟨c,fi,bj,-⟩:=ho.lookup_int spotLaw underlying117 underlying3 (b6j _) (a1w hp);rw[(hk p hp).2]at bj;simp at bj;rw[fi,bj]
theorem MapIs.grow {en:List (a0l×Int)}(h:MapIs W b n en)(p:Growth):MapIs (W.growBy p) b n en:=h.kept (a0p W p) vM
theorem RowS.cons {n₀:Nat}{v:Vu}{ss:List a0l}(h:RowS n₀ W v ss)(av:ss≠[]):∃g cap,v= .slice (some ⟨g,0,none⟩) ss.length cap/\n₀<=g/\g<W.heap.size/\∀j,(h:j<ss.length)->W.cell? ⟨g,j*2,none⟩=some (.int .i64 ss[j].1)/\W.cell? ⟨g,j*2+1,none⟩=some (.int .i64 ss[j].2):=by
 rcases h with⟨_,h⟩|h
 ·exact absurd h av
 ·exact h
theorem d4a {en:List (a0l×Int)}(h:en≠[]):a2y en≠[]:=λe=>h (List.eq_nil_of_length_eq_zero (by rw[<-a3f,e];rfl))
theorem b2k (kind:Int)(b nn:Nat)(en:List (a0l×Int))(w:Wd)(hM:MapIs w b nn en)(iQ:nn<=4294967296)(av:en≠[])(hlen:en.length<=8388608):
 Calls prog 68 #[.map (some b),.int .i64 kind] w λe w'=>∃v base,e= .returned v/\w.heap.size<=base/\w'.ownsRow base 54 4 v (a1k kind en).length ((a1k kind en).flatMap a2k)/\Below w.heap.size w w':=by
 obtain⟨i0,aT,bM,aW,bF⟩:=info_parts b2j;have hb:=hM.lt;have aQ:=λmb W=>(callsIn_wide (n:=1)).1 (c9f _ 1 trivial rfl mb W)
 have gA:=b4o w.heap.size b nn en (w.alloc (.cells #[.map (some b)] 117)) vM vM (hM.alloc _) iQ av oM;simp only[World.size_alloc]at gA;go_enter func68,ntmps68;go_wp2_with (first|(go_at_call 124;refine(aQ _ _).mono ?_;rintro e w1⟨rfl,rfl⟩)|(go_at_call 123;refine gA.mono ?_;rintro e w2⟨v,rfl,bB,az⟩;obtain⟨g,cap,rfl,tq,fg,dN⟩:=bB.cons (d4a av)));clear gA aQ;have aG:RowKit.Below w.heap.size w w2:=Below.trans (b:=w.alloc (.cells #[.map (some b)] 117)) zC (az.mono zC);have Ar:=hM.below aG hb;have cH:=aG.size;have cJ:∀e∈en,a7v e.1:=by obtain⟨D,_,_,h,_⟩:=hM;exact h
 have aR:=Lib.hid (a3f en);have lQ:(a2y en).length<=8388608:=by rw[aR.out];exact hlen
 have Cp:∀p∈a2y en,a7v p:=λp hp=>by
  have:=(List.mergeSort_perm _ _).mem_iff.1 hp;obtain⟨e,he,rfl⟩:=List.mem_map.1 this;exact cJ e he
 clear az hM cJ;go_loopw [4,13] (λu i wr=>∃(k:Nat) (v:Vu),k<=(a2y en).length/\u=v/\i= .int .i64 k/\wr.ownsRow w2.heap.size 54 4 v k (((a1k kind en).take k).flatMap a2k)/\RowKit.Below w2.heap.size w2 wr)
  (λ_ i _=>(a2y en).length-(intOf i).toNat)
 case atStart=>exact⟨0,_,Nat.zero_le _,rfl,rfl,⟨by simp,.inl ⟨rfl,rfl⟩⟩,zR _ _⟩
 case round =>
  obtain⟨k,v,hk,rfl,rfl,ae,bG⟩:=hrel;have ql:=bG.size;by_cases ag:k<(a2y en).length
  ·have aA:(k:Int)<((a2y en).length:Int):=oM
   obtain⟨c0,c1⟩:=dN k ag;have c0:=(bG.cell (p:=⟨g,k*2,none⟩) fg).trans c0;have c1:=(bG.cell (p:=⟨g,k*2+1,none⟩) fg).trans c1;have qm:=Cp _ (List.getElem_mem ag);have hd:(a1k kind en)[k]? =some ⟨(a2y en)[k].1,(a2y en)[k].2,kind,(a7q en (a2y en)[k]).getD 0⟩:=by
    unfold a1k;rw[List.getElem?_map,List.getElem?_eq_getElem ag];rfl
   generalize hp:(a2y en)[k]=p at c0 c1 qm hd;clear hp;obtain⟨px,py⟩:=p;simp only at c0 c1 hd;obtain⟨id,hid⟩:=zE ((a7q en (px,py)).getD 0);rw[hid]at hd;have aE:=Ar.below bG Ar.lt;go_wp2_with fail;obtain⟨W,hW⟩:=zE (wr.alloc (.cells #[.int .i64 px,.int .i64 py] 122));have bX:Blk W wr.heap.size #[.int .i64 px,.int .i64 py] 122:=by rw[<-hW];exact Blk.new wr _ _
   have ve:W.ownsRow w2.heap.size 54 4 u4 k (((a1k kind en).take k).flatMap a2k):=by rw[<-hW];exact ae.alloc _
   have Oo:MapIs W b nn en:=by rw[<-hW];exact aE.alloc _
   have G9:RowKit.Below w2.heap.size w2 W:=by rw[<-hW];exact bG.alloc ql _
   have G7:=G9.size;have cX:(Instr.lookup 117 (.map (some b)) (.agg #[.int .i64 px,.int .i64 py]) false).run prog W.drew= .ok (.int .i64 id) W.drew:=by
    have:=(show MapIs W.drew b nn en from Oo).look qm;rw[hid]at this;exact this
   have vf:W.drew.ownsRow w2.heap.size 54 4 u4 k (((a1k kind en).take k).flatMap a2k):=ve;have Ty:RowKit.Below w2.heap.size w2 W.drew:=G9.drew;have Tz:W.drew.heap.size=W.heap.size:=rfl;have x0:W.drew.cell? ⟨wr.heap.size,0,none⟩=some (.int .i64 px):=bX.cell 0;have x1:W.drew.cell? ⟨wr.heap.size,1,none⟩=some (.int .i64 py):=bX.cell 1;rw[hW];clear hW ae aE c0 c1;generalize wr.heap.size=Bx at *;go_region_law (refine step_append_lies _ qM _ _ _ qM w2.heap.size 54 i0 _ 4 32 underlying41 aT bM aW bF rfl oM u4 k _ qM (vf.alloc _) _ 1 1 _ qM ?_ (World.news_of_block (heap_alloc_new _ _)) (by simp[Value.oneCell']) oM oK oM uM _ rfl ?_;rfl;intro g2 ke w3 Cq xo Oq wI)
   all_goals
    clear cX vf x0 x1;have aN:RowKit.Below w2.heap.size w2 w3:=by
     exact((G9.alloc G7 (.cells #[.int .i64 px,.int .i64 py,.int .i64 kind,.int .i64 id] 54)).drew).grown xo (by show w2.heap.size<=(W.alloc _).heap.size;simp;omega) (λr e=>(ve.lt r e).1)
    have eS:((a1k kind en).take (k+1)).flatMap a2k=((a1k kind en).take k).flatMap a2k++a2k ⟨px,py,kind,id⟩:=by
     rw[List.take_add_one,hd];simp[List.flatMap_append]
    go_wp2_with fail;go_roundw
    case rel=>exact⟨k+1,_,oM,rfl,by go_num,by rw[eS];exact Cq,aN⟩
    case measure=>simp[intOf];omega
  ·obtain rfl:k=(a2y en).length:=oM
   go_wp2_with fail;go_ret;refine⟨u4,w2.heap.size,rfl,cH,?_,aG.trans (bG.mono cH)⟩;have hl:(a1k kind en).length=(a2y en).length:=by rw[a3z,aR.out]
   rw[hl];rw[<-hl,List.take_length,hl]at ae;exact ae
end
section
open Go.RowKit Go.Shelf
variable{N t x:Int}{Ba Bb:Nat}
def mx (x y:Int):Int:=if y>x then y else x
def c8t (a b c d:Int):Int:=mx (mx (mx a b) c) d
theorem run_max4 {P:Program}(ts:Array TypeId)(t:Td)(a b c d:Int)(w:Wd):(Builtin.max_ ts t #[.int .i64 a,.int .i64 b,.int .i64 c,.int .i64 d]).run P w= .ok (.int .i64 (c8t a b c d)) w:=by
 simp[Builtin.max_,Builtin.max2,c8t,mx]
theorem c9n (a b c d:Int):a<=c8t a b c d/\b<=c8t a b c d/\c<=c8t a b c d/\d<=c8t a b c d:=by
 unfold c8t mx;exact yiw
theorem c2a {a b c d m:Int}(ha:a<=m)(hb:b<=m)(hc:c<=m)(hd:d<=m):c8t a b c d<=m:=by
 unfold c8t mx;exact yiw
def a3i (a b:a0l):Int:=c8t (b.1-a.1) (-(b.1-a.1)) (b.2-a.2) (-(b.2-a.2))
def a2z (a b:a0l)(t:Int):a0l :=
 if 0<a3i a b then
  (a.1+(2*t*(b.1-a.1)+a3i a b) / (2*a3i a b),a.2+(2*t*(b.2-a.2)+a3i a b) / (2*a3i a b))
 else a
structure Near (p:a0l):Prop where
 x0 : -40000<=p.1
 x1:p.1<=40000
 y0 : -40000<=p.2
 y1:p.2<=40000
instance (n :Int):Decidable (fits n):=inferInstanceAs (Decidable (_/\_))
instance (p :a0l):Decidable (a7v p):=inferInstanceAs (Decidable (_/\_))
def b8k {α:Type}(f:Nat->α)(k:Nat):List α:=(List.range k).map f
theorem b8x {α:Type}(f:Nat->α)(k:Nat):b8k f (k+1)=b8k f k++[f k]:=by simp[b8k,List.range_succ]
theorem a3c {α:Type}(f:Nat->α)(k:Nat):(b8k f k).length=k:=by simp[b8k]
abbrev a9t :={ p:a0l // a7v p }
def b1l (a b:a0l)(k:Nat):a9t:=if h:a7v (a2z a b k)then⟨a2z a b k,h⟩else⟨(0,0),by constructor <;> constructor <;> decide⟩
theorem b2l {a b:a0l}{k:Nat}(h:a7v (a2z a b k)):(b1l a b k).1=a2z a b k:=by unfold b1l;rw[dif_pos h]
theorem a9u {ax ay bx by_:Int}(h:a3i (ax,ay) (bx,by_)=N)(h0:0<N):a2z (ax,ay) (bx,by_) t=(ax+(2*t*(bx-ax)+N) / (2*N),ay+(2*t*(by_-ay)+N) / (2*N)):=by
 unfold a2z;rw[h,if_pos h0]
theorem a8a {a b:a0l}(h:a3i a b=N)(h0:¬0<N):a2z a b t=a:=by
 unfold a2z;rw[h,if_neg h0]
theorem c2b (t0:0<=t)(t1:t<=N)(N1:N<=4194304)(x0 : -N<=x)(x1:x<=N): -(2*N)*4194304<=2*t*x/\2*t*x<=(2*N)*4194304:=by
 have h1:2*t*x<=2*t*N:=Int.mul_le_mul_of_nonneg_left x1 oM;have h2:2*t*(-N)<=2*t*x:=Int.mul_le_mul_of_nonneg_left x0 oM;have h3:2*t*N<=2*N*4194304:=Int.mul_le_mul oM N1 oM oM;have h4:2*t*(-N) = -(2*t*N):=by rw[Int.mul_neg]
 have h5 : -(2*N)*4194304 = -(2*N*4194304):=by rw[Int.neg_mul]
 omega
theorem c9o (N0:0<N)(t0:0<=t)(t1:t<=N)(N1:N<=4194304)(x0 : -N<=x)(x1:x<=N): -4194305<=(2*t*x+N) / (2*N)/\(2*t*x+N) / (2*N)<=4194305:=by
 obtain⟨h1,h2⟩:=c2b t0 t1 N1 x0 x1;constructor
 ·refine Int.le_ediv_of_mul_le oM ?_
  have : -4194305*(2*N) = -(2*N)*4194304-2*N:=by grind
  omega
 ·refine Int.ediv_le_of_le_mul oM ?_
  have:4194305*(2*N)=(2*N)*4194304+2*N:=by grind
  omega
attribute [local go_sem] run_max4
theorem d4b (n:Nat)(hn:1<=n)(l Ba Bb n₀:Nat)(ax ay bx by_:Int)(GA : -40000<=ax)(TA:ax<=40000)(TC : -40000<=ay)(wN:ay<=40000)(ed : -40000<=bx)(aw:bx<=40000)(az : -40000<=by_)(aV:by_<=40000)
 (J Jx:List a9t->World->Prop)
 (hY:∀pre (x:a9t) W,J pre W->pre.length<(a3i (ax,ay) (bx,by_)+1).toNat->YieldAt Fence.wide (n-1) prog l #[a5b x.1] W λe W' =>
  (e= .returned (.bool true)/\J (pre++[x]) W'/\(W'.heap[Ba]? =W.heap[Ba]?/\W'.heap[Bb]? =W.heap[Bb]?))\/(e= .returned (.bool false)/\Jx (pre++[x]) W'))
 (hJ:∀pre (A A':Wd),J pre A->A.grownBy A' none->J pre A')
 (W:Wd)
 (kA:Blk W Ba #[.int .i64 ax,.int .i64 ay] 122) (kB:Blk W Bb #[.int .i64 bx,.int .i64 by_] 122) (h0:J [] W) :
 CallsIn Fence.wide n prog 139 #[.func (.yield l) #[] #[],.pointer (some ⟨Bb,0,none⟩),.pointer (some ⟨Ba,0,none⟩)] W λe W'=>(∃v,e= .returned v) /\
  ((∃ys,ys=b8k (b1l (ax,ay) (bx,by_)) (a3i (ax,ay) (bx,by_)+1).toNat/\J ys W')\/(∃pre,True/\Jx pre W')):=by
 have c0:W.cell? ⟨Ba,0,none⟩=some (.int .i64 ax):=kA.cell 0;have c1:W.cell? ⟨Ba,1,none⟩=some (.int .i64 ay):=kA.cell 1;have c2:W.cell? ⟨Bb,0,none⟩=some (.int .i64 bx):=kB.cell 0;have c3:W.cell? ⟨Bb,1,none⟩=some (.int .i64 by_):=kB.cell 1;obtain⟨N,hN⟩:=zE (c8t (bx-ax) (-(bx-ax)) (by_-ay) (-(by_-ay)));have aY:=c9n (bx-ax) (-(bx-ax)) (by_-ay) (-(by_-ay));have hle:=c2a (a:=bx-ax) (b := -(bx-ax)) (c:=by_-ay) (d := -(by_-ay)) (m:=2097152) oM oM oM oM;rw[hN]at aY hle;obtain⟨g0,g1,g2,g3⟩:=aY;have tA:=Lib.hid (show a3i (ax,ay) (bx,by_)=N from hN);refine callsIn_of_wp func139 rfl trivial ?_ rfl;simp only[ntmps139,List.size_toArray,List.length_cons,List.length_nil,Nat.reduceAdd,Nat.reduceSub,Array.replicate_succ,Array.replicate_zero,List.push_toArray,List.append_toArray,List.nil_append,List.cons_append];gi_wp2;refine wpIn_wide.2 ?_;refine zR0 λp=> ?_
 gi_wp2;have N0:0<=N:=oM;obtain⟨m,hm⟩:∃m:Nat,N=m:=⟨N.toNat,oM⟩;have cV:(N+1).toNat=m+1:=oM;replace hm:=Lib.hid hm;replace cV:=Lib.hid cV;have Ot:=kA.grow p;have Ou:=kB.grow p;have h1:=hJ [] W _ h0 (a0p W p);generalize W.growBy p=W1 at *;gi_loopw [28] (λi wr=>∃k:Nat,k<=m+1/\i= .int .i64 k/\J (b8k (b1l (ax,ay) (bx,by_)) k) wr/\Blk wr Ba #[.int .i64 ax,.int .i64 ay] 122/\Blk wr Bb #[.int .i64 bx,.int .i64 by_] 122)
  (λi _=>m+1-(intOf i).toNat)
 case atStart=>exact⟨0,oM,rfl,h1,Ot,Ou⟩
 case round =>
  obtain⟨k,hk,rfl,Ap,si,vg⟩:=hrel;have tB:a3i (ax,ay) (bx,by_)=N:=tA.out;by_cases ag:k<m+1
  ·have aA:(k:Int)<N+1:=by have:=hm.out;omega
   have c0:wr.cell? ⟨Ba,0,none⟩=some (.int .i64 ax):=si.cell 0;have c1:wr.cell? ⟨Ba,1,none⟩=some (.int .i64 ay):=si.cell 1;have lA:=si.lt;have lB:=vg.lt;by_cases Cr:0<N
   ·obtain⟨s0,s1⟩:=c2b (t:=(k:Int)) (N:=N) (x:=bx-ax) oM oM oM oM oM
    obtain⟨s2,s3⟩:=c2b (t:=(k:Int)) (N:=N) (x:=by_-ay) oM oM oM oM oM;obtain⟨r0,r1⟩:=c9o (t:=(k:Int)) (N:=N) (x:=bx-ax) Cr oM oM oM oM oM;obtain⟨r2,r3⟩:=c9o (t:=(k:Int)) (N:=N) (x:=by_-ay) Cr oM oM oM oM oM;have s0 : -17592186044416<=2*(k:Int)*(bx-ax):=oM;have s1:2*(k:Int)*(bx-ax)<=17592186044416:=oM;have s2 : -17592186044416<=2*(k:Int)*(by_-ay):=oM;have s3:2*(k:Int)*(by_-ay)<=17592186044416:=oM;obtain⟨q1,e1⟩:=zE ((2*(k:Int)*(bx-ax)+N) / (2*N));obtain⟨q2,e2⟩:=zE ((2*(k:Int)*(by_-ay)+N) / (2*N));have hv:a2z (ax,ay) (bx,by_) k=(ax+q1,ay+q2):=by rw[a9u tB Cr,<-e1,<-e2]
    rw[e1]at r0 r1;rw[e2]at r2 r3;have cJ:a7v (a2z (ax,ay) (bx,by_) k):=by rw[hv];exact⟨⟨oM,oM⟩,⟨oM,oM⟩⟩
    have gU:(b1l (ax,ay) (bx,by_) k).1=(ax+q1,ay+q2):=(b2l cJ).trans hv;clear cJ hv;replace e1:=Lib.hid e1;replace e2:=Lib.hid e2;replace tB:=Lib.hid tB;gi_wp2;refine wpIn_wide.2 ?_;first|with_reducible refine a0h 25 zM zM ?_|with_reducible refine a0i 25 zM zM ?_
    simp only[zT];repeat(first|go_big_quiet_step ((go_at_call 140;exact Calls.grow_of_same (b1p (by first|with_reducible exact e1.out|with_reducible exact e2.out) _ oM oM oM)))|quiet_step ((go_at_call 140;exact Calls.grow_of_same (b1p (by first|with_reducible exact e1.out|with_reducible exact e2.out) _ oM oM oM))))
    refine wpQuiet_nil ?_;intro _ bh;obtain⟨p,bh⟩:=bh;subst bh;go_wp2_with fail;have aN:RowKit.Below wr.heap.size wr ((wr.alloc (.cells #[.int .i64 (ax+q1),.int .i64 (ay+q2)] 122)).growBy p):=zC;have bX:=(Blk.new wr #[.int .i64 (ax+q1),.int .i64 (ay+q2)] 122).grow p;obtain⟨W3,ez⟩:=zE ((wr.alloc (.cells #[.int .i64 (ax+q1),.int .i64 (ay+q2)] 122)).growBy p);rw[ez]at aN bX ⊢;clear ez;have Cl:=hJ _ wr W3 Ap (a0t aN);have BH:=si.below aN lA;have BI:=vg.below aN lB;have x0:W3.cell? ⟨wr.heap.size,0,none⟩=some (.int .i64 (ax+q1)):=bX.cell 0;have x1:W3.cell? ⟨wr.heap.size,1,none⟩=some (.int .i64 (ay+q2)):=bX.cell 1;obtain⟨fn,tmps,assign,body,hy,hR⟩:=hY _ (b1l (ax,ay) (bx,by_) k) W3 Cl (by rw[a3c,tA.out,cV.out];exact ag);rw[gU]at hy;clear s0 s1 s2 s3 r0 r1 r2 r3 c0 c1 aN bX;generalize wr.heap.size=Bx at *;exact ydc
   ·have cJ:a7v (a2z (ax,ay) (bx,by_) k):=by rw[a8a tB Cr];exact⟨⟨oM,oM⟩,⟨oM,oM⟩⟩
    have gU:(b1l (ax,ay) (bx,by_) k).1=(ax,ay):=(b2l cJ).trans (a8a tB Cr);clear cJ;replace tB:=Lib.hid tB;have aN:RowKit.Below wr.heap.size wr (wr.alloc (.cells #[.int .i64 ax,.int .i64 ay] 122)):=zC;have Cl:=hJ _ wr _ Ap (a0t aN);have BH:=si.below aN lA;have BI:=vg.below aN lB;obtain⟨fn,tmps,assign,body,hy,hR⟩:=hY _ (b1l (ax,ay) (bx,by_) k) _ Cl (by rw[a3c,tA.out,cV.out];exact ag);rw[gU]at hy;exact ydc
  ·obtain rfl:k=m+1:=oM
   have aA:¬(((m+1:Nat):Int)<N+1):=by have:=hm.out;omega
   replace tB:=Lib.hid tB;gi_wp2;go_end0;exact⟨⟨_,rfl⟩,.inl (by rw[tA.out,cV.out];exact Ap)⟩
def b8y (Ba Bb:Nat)(A B:Wd):Prop:=B.heap[Ba]? =A.heap[Ba]?/\B.heap[Bb]? =A.heap[Bb]?
theorem c9p {A B C:Wd}(h:b8y Ba Bb A B)(k:b8y Ba Bb B C):b8y Ba Bb A C:=⟨k.1.trans h.1,k.2.trans h.2⟩
theorem d7v {w:Wd}(ha:Ba<w.heap.size)(hb:Bb<w.heap.size)(W:Wd)(l:Nat)(o o':Obj)(hl:w.heap.size<=l)(_:W.heap[l]? =some o)(_:o.isCells=false)(_:o.isWalk=false):b8y Ba Bb W (W.putObj l o') :=
 ⟨World.putObj_heap_other oM,World.putObj_heap_other oM⟩
theorem c6n (n:Nat)(hn:1<=n)(Ba Bb:Nat)(a b:a0l)(ha:Near a)(hb:Near b)(w:Wd)
 (kA:Blk w Ba #[.int .i64 a.1,.int .i64 a.2] 122) (kB:Blk w Bb #[.int .i64 b.1,.int .i64 b.2] 122) :
 SeqStopsK Fence.wide n prog 139 #[.pointer (some ⟨Bb,0,none⟩),.pointer (some ⟨Ba,0,none⟩)] (λx:a9t=> #[a5b x.1]) (b8y Ba Bb) (λys=>ys=b8k (b1l a b) (a3i a b+1).toNat) (λ_=>True) (a3i a b+1).toNat w:=λl J Jx W hW hJ _ hY h0=>by
 obtain⟨ax,ay⟩:=a;obtain⟨bx,by_⟩:=b;obtain⟨a0,a1,a2,a3⟩:=ha;obtain⟨b0,b1,b2,b3⟩:=hb;exact d4b n hn l Ba Bb 0 ax ay bx by_ a0 a1 a2 a3 b0 b1 b2 b3 J Jx hY (λpre A A' hj hg=>hJ pre A A' none hj hg (λr e=>by cases e)) W (kA.below hW kA.lt) (kB.below hW kB.lt) h0
theorem d4c (ax ay bx by_:Int)(w:Wd):
 Calls prog 82 #[a5b (ax,ay),a5b (bx,by_)] w λe w'=>e= .returned (.func (.func 139) #[] #[.pointer (some ⟨w.heap.size+1,0,none⟩),.pointer (some ⟨w.heap.size,0,none⟩)]) /\
  w'=(w.alloc (.cells #[.int .i64 ax,.int .i64 ay] 122)).alloc (.cells #[.int .i64 bx,.int .i64 by_] 122):=by
 go_enter func82,ntmps82;exact ybd
theorem b2m (x y:Int)(w:Wd):
 Zc prog 81 #[.agg #[.int .i64 x,.int .i64 y]] w (.bool (!a1j x y)):=by
 obtain⟨b,hb⟩:=zE (a1j x y);rw[hb];replace hb:=Lib.hid hb;go_enter func81,ntmps81;go_wp2_with (go_at_call 60;refine(a8q hb.out _).mono ?_;rintro e w'⟨rfl,al⟩;obtain⟨p,rfl⟩:=a0c al;clear al);go_ret;exact⟨by simp,zC⟩
end
section
open Go.RowKit Go.Shelf Go.Maps
variable{way:Array Value}{id:Int}{B Bm Bs Bw mb n0:Nat}{s:Sh}{W W' w:Wd}
def c9q (s:Sh)(id:Int)(en:List (a0l×Int))(d:a0l):List (a0l×Int) :=
 if onS s d.1 d.2&&(!b1k en d||decide (id<(a7q en d).getD 0))then b6k en d id else en
def a5c (s:Sh)(p:a0l):a0l:=(c1y s p.1,c1z s p.2)
def b4p (s:Sh)(p q:a0l):List a9t:=b8k (b1l (a5c s p) (a5c s q)) (a3i (a5c s p) (a5c s q)+1).toNat
def a3p (s:Sh)(id:Int)(en:List (a0l×Int))(l:List a9t):List (a0l×Int):=l.foldl (λen d=>c9q s id en d.1) en
structure WI (s:Sh)(id:Int)(w:Wd)(Bs mb Bm Bw n0:Nat)(way:Array Value)(en0:List (a0l×Int))(pre:List a9t)(W:Wd):Prop where
 map:∃n,n<=n0+pre.length/\MapIs W mb n (a3p s id en0 pre)
 sheet:Blk W Bs #[.int .i64 s.ax,.int .i64 s.ay,.int .i64 s.st,.int .i64 s.w,.int .i64 s.h,.int .i64 s.g] 28
 box:Blk W Bm #[.map (some mb)] 117
 way:Blk W Bw way 149
 below:Below w.heap.size w W
theorem WI.own {en0:List (a0l×Int)}(hs:Bs<B)(hm:mb<B)(hb:Bm<B)(hw:Bw<B)(hB:w.heap.size<=B):OwnFrom B (WI s id w Bs mb Bm Bw n0 way en0):=λpre X Y row h hg hr=>by
 have av:∀b,b<B->row≠some b:=λb hb e=>by have:=(hr b e).1;omega
 obtain⟨⟨n,hn,hM⟩,h1,h2,h3,h4⟩:=h;exact⟨⟨n,hn,hM.kept hg (av _ hm)⟩,h1.kept hg (av _ hs),h2.kept hg (av _ hb),h3.kept hg (av _ hw),h4.grown hg h4.size (λk e=>Nat.le_trans hB (hr k e).1)⟩
theorem WI.grown {en0:List (a0l×Int)}{pre:List a9t}(h:WI s id w Bs mb Bm Bw n0 way en0 pre W)(hg:W.grownBy W' none):WI s id w Bs mb Bm Bw n0 way en0 pre W':=by
 obtain⟨⟨n,hn,hM⟩,h1,h2,h3,h4⟩:=h;exact⟨⟨n,hn,hM.kept hg vM⟩,h1.kept hg vM,h2.kept hg vM,h3.kept hg vM,h4.grown hg h4.size (λk e=>by cases e)⟩
theorem c5f {x y i j:Int}(hs:OkS s)(x0 : -16384<=x)(x1:x<=16384)(y0 : -16384<=y)(y1:y<=16384)(hi:c1y s x=i)(hj:c1z s y=j):Near (i,j):=by
 have h1:=c9h (a:=x-s.ax) (b:=s.st) (m:=32768) (by have:=hs.st0;omega) (by have:=hs.x1;omega) (by have:=hs.x0;omega);have h2:=c9h (a:=y-s.ay) (b:=s.st) (m:=32768) (by have:=hs.st0;omega) (by have:=hs.y1;omega) (by have:=hs.y0;omega);unfold c1y at hi;unfold c1z at hj;exact⟨by show _<=i;omega,by show i<=_;omega,by show _<=j;omega,by show j<=_;omega⟩
theorem a8t {F:Fence}{n:Nat}{P:Program}{α:Type}{g:Operand}{ps:Array Tmp}{assign body:Code}{Q:Exit->Act->World->Prop}{a:Act}(slot iE:Nat)(fj:α->Value)(tC:α->Array Value)(ty:Td)
 (fU:F.round=none) (h1:1<=n) {gf:Nat} {lb:Array Value} (hg:a.eval g= .func (.func gf) #[] lb) (ou:F.fn gf) (eg:∀args w,(callFunc gf args).run P w= .ok (.enter gf args) w)
 {fm:α->Array Value} {Kp:World->World->Prop} {S Sp:List α->Prop} {N:Nat} {w0:Wd} (bN:SeqStopsK F (n-1) P gf lb fm Kp S Sp N w0)
 (Ov:∀ {A B C:Wd},Kp A B->Kp B C->Kp A C) (Ow:∀(W:Wd) (l:Nat) (o o':Obj),w.heap.size<=l->W.heap[l]? =some o->o.isCells=false->o.isWalk=false->Kp W (W.putObj l o')) (ed:Below w0.heap.size w0 w) (eT:∀x,(fm x).size=ps.size)
 (I:List α->World->Prop) (hI:OwnFrom w.heap.size I) (h0:I [] w)
 (cg:∀(l:Nat) (pre:List α) (x:α) (W:Wd) (K:Act->World->Prop),I pre W->(∀a' W',KeepsFrom w.heap.size W W'->Kp W W'->I pre W'->(∃Bx,w.heap.size<=Bx/\Blk W' Bx (tC x) ty/\a'={ tmps:=(a.tmps.setIfInBounds slot (fj x)).setIfInBounds iE (.pointer (some ⟨Bx,0,none⟩)),defers:=[] })->K a' W') ->
  assign.wpIn (F.inRound l) (n-1-1) P (Exit.then K (λ_ _ _=>False)) { tmps:=(ps.zip (fm x)).foldl (λt (p,v)=>t.setIfInBounds p v) a.tmps,defers:=[] } W)
 (eO:∀(l:Nat) (pre:List α) (x:α) (Bx:Nat) (W:Wd),I pre W->w.heap.size<=Bx->Blk W Bx (tC x) ty->pre.length<N->body.wpIn (F.inRound l) (n-1-1) P (ownPostG w.heap.size Kp I (λ_ _ _=>False) (pre++[x]) W) { tmps:=(a.tmps.setIfInBounds slot (fj x)).setIfInBounds iE (.pointer (some ⟨Bx,0,none⟩)),defers:=[] } W)
 (eQ:∀(D:Nat) (xs:List α) (W:Wd),w.heap.size<=D->S xs->I xs W->W.heap[D]? =some (.deferred (some []))->Q .normal { a with defers:={ target:= .collected D,args:= #[] }::a.defers } W) :
 (Code.rangeFunc g ps assign body).wpIn F n P Q a w :=
 wpIn_rangeFunc_ownH fU h1 hg ou eg bN Ov Ow ed eT I (λ_ _ _=>False) hI (λ_=>ownFrom_pure _ _) h0
  (λx a' W=>∃Bx,w.heap.size<=Bx/\Blk W Bx (tC x) ty/\a'={ tmps:=(a.tmps.setIfInBounds slot (fj x)).setIfInBounds iE (.pointer (some ⟨Bx,0,none⟩)),defers:=[] })
  (λx a' _ X Y row hs hg hr=>by obtain⟨Bx,k1,k2,k3⟩:=hs;exact⟨Bx,k1,c9g Bx ty (λ(_:Unit)=>tC x) () X Y row k2 hg (λr e=>(hr r e).2),k3⟩)
  cg (λl pre x a' W _ _ hi Ox hl=>by obtain⟨Bx,k1,k2,rfl⟩:=Ox;exact eO l pre x Bx W hi k1 k2 hl) eQ (λ_ _ _ _ _ _ hF _=>hF.elim)
theorem a5w {Ba Bb:Nat}{row:Option Nat}(hg:W.grownBy W' row)(ha:Ba<W.heap.size)(hb:Bb<W.heap.size)(Oy:row≠some Ba)(Cs:row≠some Bb):b8y Ba Bb W W' :=
 ⟨hg.block Ba ha (λe=>Oy e.symm),hg.block Bb hb (λe=>Cs e.symm)⟩
theorem b8z (s:Sh)(id:Int)(en:List (a0l×Int))(pre:List a9t)(x:a9t):a3p s id en (pre++[x])=c9q s id (a3p s id en pre) x.1:=by simp[a3p]
theorem WI.sized {Z:Nat}{en0:List (a0l×Int)}(hs:Bs<B)(hm:mb<B)(hb:Bm<B)(hw:Bw<B)(hB:w.heap.size<=B):OwnFrom B (λpre W=>WI s id w Bs mb Bm Bw n0 way en0 pre W/\Z<=W.heap.size):=λpre X Y row h hg hr =>
 ⟨WI.own hs hm hb hw hB pre X Y row h.1 hg hr,Nat.le_trans h.2 hg.size⟩
theorem c5g {a b:a0l}(ha:Near a)(hb:Near b):(a3i a b+1).toNat<=80001:=by
 have h:=c2a (a:=b.1-a.1) (b := -(b.1-a.1)) (c:=b.2-a.2) (d := -(b.2-a.2)) (m:=80000) (by have:=ha.x0;have:=hb.x1;omega) (by have:=ha.x1;have:=hb.x0;omega) (by have:=ha.y0;have:=hb.y1;omega) (by have:=ha.y1;have:=hb.y0;omega);have h2:a3i a b<=80000:=h;omega
theorem c2c (l:List (a0l×Int))(p:a0l)(x:Int):(b6k l p x).length<=l.length+1:=by unfold b6k;split <;> simp
end
section
open Go.RowKit Go.Shelf
theorem d7w (n m:Int)(hm:1<=m):(n.tmod m+m) % m=n % m:=by
 rw[Int.add_emod_right,Int.tmod_eq_emod];split
 ·rw[Int.natCast_zero,Int.sub_zero,Int.emod_emod_of_dvd _ (Int.dvd_refl m)]
 ·rw[Int.natAbs_of_nonneg oM,Int.sub_emod_right,Int.emod_emod_of_dvd _ (Int.dvd_refl m)]
theorem a5x (n m:Int)(w:Wd)(hn:fits n)(h1:1<=m)(h2:m<=4611686018427387904) :
 Calls prog 77 #[.int .i64 n,.int .i64 m] w λr w'=>r= .returned (.int .i64 (n % m))/\w=w':=by
 obtain⟨n0,n1⟩:=hn;have b0:=Int.lt_tmod_of_pos n (b:=m) oM;have b1:=Int.tmod_lt_of_pos n (b:=m) oM;have b2:0<=n.tmod m+m:=oM;have b3:n.tmod m+m<=9223372036854775807:=oM;have h0:(m==0)=false:=by simp;omega
 have HM:=Lib.hid (d7w n m h1);go_enter func77,ntmps77;go_wp2_with fail;go_ret;exact⟨a6l HM.out,rfl⟩
theorem b0t (n lo hi:Int)(w:Wd) :
 Calls prog 141 #[.int .i64 n,.int .i64 lo,.int .i64 hi] w λe w'=>e= .returned (.bool (inR lo n hi))/\w=w':=by
 go_enter func141,ntmps141;go_wp2_with fail
 all_goals
  go_ret;exact⟨by unfold inR;first|rfl|(congr 2;simp;omega),rfl⟩
theorem a5y {s:Sh}{i j:Int}:onS s i j=true↔(0<=i/\i<s.w)/\0<=j/\j<s.h:=by
 simp only[onS,inR,Bool.and_eq_true,decide_eq_true_eq];omega
theorem c9r {s:Sh}(h:(1<=s.st/\s.st<=1024)/\(1<=s.w/\s.w<=80)/\(1<=s.h/\s.h<=80)/\(1<=s.g/\s.g<=4)):a1h s=if a1j s.ax s.ay&&a1j (s.ax+s.w*s.st) (s.ay+s.h*s.st)then 0 else 10:=by
 unfold a1h;rw[if_pos];simp only[Bool.and_eq_true,a9s];omega
structure InS (s:Sh):Prop where
 a1:1<=s.st
 a2:s.st<=1024
 b1:1<=s.w
 b2:s.w<=80
 c1:1<=s.h
 c2:s.h<=80
 d1:1<=s.g
 d2:s.g<=4
def apF (a b:Int):Int:=if a<=b then(if 80<b-a then 80 else b-a)else(if 80<a-b then 80 else a-b)
structure DtRow (W:Wd)(b o:Nat)(d:Dt):Prop where
 c0:W.cell? ⟨b,o,none⟩=some (.int .i64 d.x)
 c1:W.cell? ⟨b,o+1,none⟩=some (.int .i64 d.y)
 c2:W.cell? ⟨b,o+2,none⟩=some (.int .i64 d.k)
 c3:W.cell? ⟨b,o+3,none⟩=some (.int .i64 d.i)
theorem DtRow.below {n₀:Nat}{A B:Wd}(h:Below n₀ A B){b o:Nat}{d:Dt}(hb:b<n₀)(r:DtRow A b o d):DtRow B b o d :=
 ⟨(h.cell (p:=⟨b,o,none⟩) hb).trans r.c0,(h.cell (p:=⟨b,o+1,none⟩) hb).trans r.c1,(h.cell (p:=⟨b,o+2,none⟩) hb).trans r.c2,(h.cell (p:=⟨b,o+3,none⟩) hb).trans r.c3⟩
def Dts (n₀:Nat)(W:Wd)(sv:Vu)(l:List Dt):Prop :=
 (sv= .slice none 0 0/\l=[])\/∃b off cap,sv= .slice (some ⟨b,off,none⟩) l.length cap/\b<n₀/\l.length<=4294967296/\(∀d∈l,fits d.x/\fits d.y)/\∀j,(h:j<l.length)->DtRow W b (off+j*4) l[j]
theorem Dts.below {n₀:Nat}{A B:Wd}(h:Below n₀ A B){sv:Vu}{l:List Dt}:Dts n₀ A sv l->Dts n₀ B sv l
 |.inl e=> .inl e
 |.inr ⟨b,off,cap,e,hb,hl,hf,hc⟩=> .inr ⟨b,off,cap,e,hb,hl,hf,λj hj=>(hc j hj).below h hb⟩
theorem Dts.mono {n₀ dQ:Nat}(h:n₀<=dQ){W:Wd}{sv:Vu}{l:List Dt}:Dts n₀ W sv l->Dts dQ W sv l
 |.inl e=> .inl e
 |.inr ⟨b,off,cap,e,hb,r⟩=> .inr ⟨b,off,cap,e,Nat.lt_of_lt_of_le hb h,r⟩
theorem d7x :∀(l:List Dt) (j:Nat) (h:j<l.length),(l.flatMap a2k)[j*4]? =some (.int .i64 l[j].x)/\(l.flatMap a2k)[j*4+1]? =some (.int .i64 l[j].y)/\(l.flatMap a2k)[j*4+2]? =some (.int .i64 l[j].k)/\(l.flatMap a2k)[j*4+3]? =some (.int .i64 l[j].i)
 |[],j,h=>by simp at h
 |d::l,0,_=>by simp
 |d::l,j+1,h=>by
  have ih:=d7x l j (by simpa using h);have e:(j+1)*4=j*4+1+1+1+1:=oM;rw[e];simpa[List.flatMap_cons,Nat.add_assoc]using ih
theorem b5f {base:Nat}{W:Wd}{v:Vu}{l:List Dt}(h:W.ownsRow base 54 4 v l.length (l.flatMap a2k))(hl:l.length<=4294967296)(hf:∀d∈l,fits d.x/\fits d.y):Dts W.heap.size W v l:=by
 rcases h.2 with⟨rfl,h0⟩|⟨g,cap,cur,rfl,aD,ik,_⟩
 ·exact .inl ⟨rfl,List.eq_nil_of_length_eq_zero h0⟩
 ·refine .inr ⟨g,0,cap,rfl,(Array.getElem?_eq_some_iff.1 ik).1,hl,hf,λj hj=> ?_⟩
  obtain⟨f0,f1,f2,f3⟩:=d7x l j hj;rw[Nat.zero_add];exact⟨(h.cellAt _ oM).trans f0,(h.cellAt _ oM).trans f1,(h.cellAt _ oM).trans f2,(h.cellAt _ oM).trans f3⟩
def apD (d e:Dt):Int:=if apF d.y e.y>apF d.x e.x then apF d.y e.y else apF d.x e.x
def c2d (m:Int)(d e:Dt):Int:=if apD d e<m then apD d e else m
def a4r (d:Dt)(m:Int)(b:List Dt):Int:=b.foldl (λm e=>c2d m d e) m
def a1x (a b:List Dt):Int:=a.foldl (λm d=>a4r d m b) 80
theorem c2e {d:Dt}{m:Int}{b:List Dt}{k:Nat}(h:k<b.length):a4r d m (b.take (k+1))=c2d (a4r d m (b.take k)) d b[k]:=by
 unfold a4r;rw[List.take_add_one,List.getElem?_eq_getElem h,List.foldl_append];rfl
theorem c2f {a b:List Dt}{k:Nat}(h:k<a.length):a1x (a.take (k+1)) b=a4r a[k] (a1x (a.take k) b) b:=by
 unfold a1x;rw[List.take_add_one,List.getElem?_eq_getElem h,List.foldl_append];rfl
theorem Dts.open_ {n₀:Nat}{W:Wd}{sv:Vu}{l:List Dt}(h:Dts n₀ W sv l):l.length<=4294967296/\∃a cap,sv= .slice a l.length cap/\∀j,(h:j<l.length)->∃b off,a=some ⟨b,off,none⟩/\b<n₀/\DtRow W b (off+j*4) l[j]/\fits l[j].x/\fits l[j].y:=by
 rcases h with⟨rfl,rfl⟩|⟨b,off,cap,rfl,hb,hl,hf,hc⟩
 ·exact⟨by simp,none,0,rfl,λj hj=>by simp at hj⟩
 ·exact⟨hl,_,cap,rfl,λj hj=>⟨b,off,rfl,hb,hc j hj,hf _ (List.getElem_mem hj)⟩⟩
theorem a5f (c:Int)(b:Bool)(hb:(decide (48<=c)&&decide (c<=57))=b)(w:Wd):Calls prog 119 #[.int .u8 c] w λe w'=>e= .returned (.bool b)/\w=w':=by
 subst hb;go_enter func119,ntmps119;exact ykw
def one :ByteArray:=⟨#[49]⟩
def a2w :Array Value:= #[.string ⟨#[119,105,116,104]⟩,.string ⟨#[116,104,101]⟩,.string ⟨#[97,110,100]⟩,.string ⟨#[102,111,114]⟩,.string ⟨#[105,110,103]⟩,.string ⟨#[111,102]⟩,.string ⟨#[99,104]⟩,.string ⟨#[115,104]⟩,.string ⟨#[116,104]⟩,.string ⟨#[115,116]⟩,.string ⟨#[101,114]⟩]
def wordsL :List ByteArray:=[⟨#[119,105,116,104]⟩,⟨#[116,104,101]⟩,⟨#[97,110,100]⟩,⟨#[102,111,114]⟩,⟨#[105,110,103]⟩,⟨#[111,102]⟩,⟨#[99,104]⟩,⟨#[115,104]⟩,⟨#[116,104]⟩,⟨#[115,116]⟩,⟨#[101,114]⟩]
theorem a6o (w:Wd):Calls prog 115 #[] w λe w'=>e= .returned (.slice (some ⟨w.heap.size,0,none⟩) 11 11)/\w'=w.alloc (.cells a2w 9):=by
 go_enter func115,ntmps115;exact ybd
theorem sizeBuilder :(prog.info? 178).map (·.size)=some 2:=by kernel_rfl
theorem liesBuilder :liesAt prog prog.depth 178 (2 / prog.cellsOf 178) 0 178 1=true:=by kernel_rfl
theorem b4q (b:Nat)(w:Wd)(h0:w.cell? ⟨b,0,none⟩=some (.pointer (some ⟨b,0,none⟩))) :
 Calls prog 157 #[.pointer (some ⟨b,0,none⟩)] w λe w'=>e= .returned (.tuple #[])/\w'=w:=by
 obtain⟨j,hj,_⟩:=Option.map_eq_some_iff.1 sizeBuilder;go_enter func157,ntmps157;go_wp2
 rw[Lib.run_neq_ptr_same w _ underlying176 hj];go_wp2
 go_end0;exact⟨rfl,rfl⟩
theorem b2n (b:Nat)(w:Wd)(h0:w.cell? ⟨b,0,none⟩=some (.pointer none))(bO:w.shape? b=some (178,2))(Oz:w.frozen? ⟨b,0,none⟩=false) :
 Calls prog 157 #[.pointer (some ⟨b,0,none⟩)] w λe w'=>e= .returned (.tuple #[])/\w'=w.setCell ⟨b,0,none⟩ (.pointer (some ⟨b,0,none⟩)):=by
 obtain⟨j,hj,OA⟩:=Option.map_eq_some_iff.1 sizeBuilder;go_enter func157,ntmps157;go_wp2
 rw[Lib.run_to_unsafe w ⟨b,0,none⟩ underlying176 underlying232 hj (by rw[OA];decide) bO (Nat.zero_lt_succ 1)];simp only[Result.andThen];rw[Oper.upon_value];go_wp2
 rw[run_callFunc_extern func173 zM zM zM (e:=Extern.AbiNoEscape.same) zM];rw[Lib.run_noEscape];simp only[Result.andThen];rw[Oper.upon_value];go_wp2
 rw[Lib.run_from_unsafe w ⟨b,0,none⟩ underlying232 underlying176 hj bO liesBuilder];simp only[Result.andThen];rw[Oper.upon_value];go_wp2
 go_end0;exact⟨rfl,rfl⟩
theorem infoByte :(prog.info? 5).map (λi=>(i.zero,i.size,i.bytes))=some (some (.int .u8 0),1,1):=by kernel_rfl
theorem a7w :∃i,prog.info? 5=some i/\i.zero=some (.int .u8 0)/\i.size=1/\i.bytes=1:=by
 obtain⟨i,hi,h⟩:=Option.map_eq_some_iff.1 infoByte;simp only[Prod.mk.injEq]at h;exact⟨i,hi,h.1,h.2.1,h.2.2⟩
theorem c2g (B b:Nat)(bs:List Value)(w:Wd)(h:Lib.IsBuilderF 178 5 B b bs w) :
 Calls prog 157 #[.pointer (some ⟨b,0,none⟩)] w λe w'=>e= .returned (.tuple #[])/\(Lib.BuilderAtF 178 5 B b (.pointer (some ⟨b,0,none⟩)) bs w'/\Below B w w'/\Lib.OthersKept 5 (some b) w w'):=by
 rcases h with h|h
 ·refine(b2n b w h.cell0 h.shape h.frozen0).mono ?_
  rintro e w'⟨rfl,rfl⟩;exact⟨rfl,h.used _,(zR B w).setCell (p:=⟨b,0,none⟩) h.1 _,(Lib.OthersKept.refl _ _ w).setCell ⟨b,0,none⟩ rfl _⟩
 ·refine(b4q b w h.cell0).mono ?_
  rintro e w'⟨rfl,rfl⟩;exact⟨rfl,h,zR B _,Lib.OthersKept.refl _ _ _⟩
theorem c2h (B b:Nat)(bs:List Value)(c:Int)(w:Wd)(h:Lib.IsBuilderF 178 5 B b bs w)(hlen:bs.length+1<=140737488355328)(tm:B<=w.heap.size) :
 Calls prog 118 #[.pointer (some ⟨b,0,none⟩),.int .u8 c] w λe w'=>e= .returned .nilIface/\(Lib.BuilderAtF 178 5 B b (.pointer (some ⟨b,0,none⟩)) (bs++[.int .u8 c]) w'/\Below B w w'/\Lib.OthersKept 5 (some b) w w'):=by
 obtain⟨i0,hi,bM,aW,bF⟩:=a7w;go_enter func118,ntmps118;go_wp2_with (go_at_call 157;refine(c2g B b bs _ h).mono ?_);rintro e w1⟨rfl,h1,aw,jR⟩;obtain⟨hB,v,vh,aj,av⟩:=h1;have c0:w1.cell? ⟨b,0,none⟩=some (.pointer (some ⟨b,0,none⟩)):=by rw[Lib.cell_of_heap vh];rfl
 have c1:w1.cell? ⟨b,1,none⟩=some v:=by rw[Lib.cell_of_heap vh];rfl
 go_wp2_with (at_builtin;refine wpList_append_ownF _ rfl _ _ 116 rfl B 5 i0 (.int .u8 0) 1 1 underlying116 hi bM aW bF rfl jM _ _ _ rfl (aj.alloc _) ⟨w1.heap.size,0,none⟩ 1 1 [.int .u8 c] rfl rfl ?c1 ?c2 ?c3 ?c4 ?c5 ?_)
 case c1 =>
  intro j u hj;match j,hj with
  |0,hj=>simp at hj;subst hj;simp[Addr.add]
 case c2=>intro u hu;simp at hu;subst hu;rfl
 case c3=>unfold maxLen;omega
 case c4=>omega
 case c5=>have:=aw.size;simp;omega
 intro v' w2 bW bJ _;have ag:b<w1.heap.size:=by
  rcases Nat.lt_or_ge b w1.heap.size with h'|h'
  ·exact h'
  ·simp[Array.getElem?_eq_none h']at vh
 have az:w2.heap[b]? =some (.cells #[.pointer (some ⟨b,0,none⟩),v] 178 (0,0)):=by
  rw[bJ.block b uM (λe=>av e.symm),Lib.alloc_old w1 _ b ag];exact vh
 have d0:w2.cell? ⟨b,0,none⟩=some (.pointer (some ⟨b,0,none⟩)):=by rw[Lib.cell_of_heap az];rfl
 have d1:w2.cell? ⟨b,1,none⟩=some v:=by rw[Lib.cell_of_heap az];rfl
 have f1:w2.frozen? ⟨b,1,none⟩=false:=Lib.frozen_of_heap az 1;obtain⟨g,cap,rfl⟩:∃g cap,v'= .slice (some ⟨g,0,none⟩) (bs.length+1) cap:=by
  rcases bW.2 with⟨_,h0⟩|⟨g,cap,cur,fz,hv,_⟩
  ·omega
  ·exact⟨g,cap,hv⟩
 go_wp2
 go_ret;refine⟨rfl,?_,?_,((jR.alloc _).grown bJ (Lib.ownsRowF_kind (aj.alloc _))).setCell ⟨b,1,none⟩ rfl _⟩
 ·exact Lib.BuilderAtF.put (T:=178) (e:=5) hB az (bs':=bs++[.int .u8 c]) (by simpa using bW) jM
 ·exact((aw.alloc (by have:=aw.size;omega) _).grown bJ (by have:=aw.size;simp;omega) (λk hk=>(aj.lt k hk).1)).setCell (p:=⟨b,1,none⟩) hB _
structure BW (B sb b kb:Nat)(s:Bw)(k:Int)(l:List UInt8)(w0 w:Wd):Prop where
 below:Below B w0 w
 sbk:w.heap[sb]? =some (.cells #[.string s] 9 (0,0))
 kbk:w.heap[kb]? =some (.cells #[.int .i64 k] 3 (0,0))
 bld:Lib.IsBuilderF 178 5 B b (Lib.byteCells l) w
 kB:B<=kb
 neb:kb≠b
 nes:sb≠b
 nek:sb≠kb
theorem a5g {w:Wd}{k:Nat}{o:Obj}(h:w.heap[k]? =some o):k<w.heap.size:=(Array.getElem?_eq_some_iff.1 h).1
section
variable {B sb b kb:Nat}{s:Bw}{k:Int}{l:List UInt8}{w0 w:Wd}
theorem BW.le (h:BW B sb b kb s k l w0 w):B<=w.heap.size:=Nat.le_of_lt (Nat.lt_of_le_of_lt h.kB (a5g h.kbk))
theorem BW.alloc (h:BW B sb b kb s k l w0 w)(o:Obj):BW B sb b kb s k l w0 (w.alloc o) where
 below:=h.below.alloc h.le o
 sbk:=by rw[Lib.alloc_old w o sb (a5g h.sbk)];exact h.sbk
 kbk:=by rw[Lib.alloc_old w o kb (a5g h.kbk)];exact h.kbk
 bld:=h.bld.alloc o
 kB:=h.kB
 neb:=h.neb
 nes:=h.nes
 nek:=h.nek
theorem BW.drewN (h:BW B sb b kb s k l w0 w)(n:Nat):BW B sb b kb s k l w0 (w.drewN n) where
 below:=below_drewN' h.below n
 sbk:=h.sbk
 kbk:=h.kbk
 bld:=h.bld
 kB:=h.kB
 neb:=h.neb
 nes:=h.nes
 nek:=h.nek
theorem BW.cs (h:BW B sb b kb s k l w0 w):w.cell? ⟨sb,0,none⟩=some (.string s):=by rw[Lib.cell_of_heap h.sbk];rfl
theorem BW.ck (h:BW B sb b kb s k l w0 w):w.cell? ⟨kb,0,none⟩=some (.int .i64 k):=by rw[Lib.cell_of_heap h.kbk];rfl
theorem BW.fk (h:BW B sb b kb s k l w0 w):w.frozen? ⟨kb,0,none⟩=false:=Lib.frozen_of_heap h.kbk 0
theorem BW.byte (h:BW B sb b kb s k l w0 w)(c:UInt8)(hl:l.length+1<=140737488355328) :
 Calls prog 118 #[.pointer (some ⟨b,0,none⟩),.int .u8 c.toNat] w λe w'=>e= .returned .nilIface/\BW B sb b kb s k (l++[c]) w0 w':=by
 refine(c2h B b (Lib.byteCells l) c.toNat w h.bld (by rw[Lib.byteCells_length];exact hl) h.le).mono ?_;rintro e w'⟨rfl,h1,h2,h3⟩;refine⟨rfl,h.below.trans h2,h3 sb _ h.sbk (λe=>h.nes (Option.some.inj e)) (λc fz e=>by cases e),h3 kb _ h.kbk (λe=>h.neb (Option.some.inj e)) (λc fz e=>by cases e),?_,h.kB,h.neb,h.nes,h.nek⟩;rw[show Lib.byteCells (l++[c])=Lib.byteCells l++[.int .u8 c.toNat]from by simp[Lib.byteCells]];exact .inr h1
theorem BW.newk (h:BW B sb b kb s k l w0 w)(k':Int):BW B sb b w.heap.size s k' l w0 (w.alloc (.cells #[.int .i64 k'] 3)) where
 below:=h.below.alloc h.le _
 sbk:=by rw[Lib.alloc_old w _ sb (a5g h.sbk)];exact h.sbk
 kbk:=heap_alloc_last w _
 bld:=h.bld.alloc _
 kB:=h.le
 neb:=by
  have hb:b<w.heap.size:=by rcases h.bld with h1|h1 <;> exact h1.lt
  omega
 nes:=h.nes
 nek:=Nat.ne_of_lt (a5g h.sbk)
end
theorem c5h {p:ByteArray->Bool}:∀(zs:List ByteArray) (i:Nat),(∀x∈zs,p x=false)->Lib.idxByFrom (λ_ y=>p y) default zs i = -1
 |[],_,_=>rfl
 |y::r,i,h=>by
  unfold Lib.idxByFrom;rw[h y (List.mem_cons_self ..)];exact c5h r (i+1) (λx hx=>h x (List.mem_cons_of_mem _ hx))
theorem a0k {P:Program}{ops:Array Oper}{rest:List Oper}{o:Oper}{a:Act}{w:Wd}{Q:Exit->Act->World->Prop}(hg:o.guard=none)(t:Td)(x y:Operand)(ho:o.op= .index t x y)(s:Bw)(k:IntKind)(i:Int)(hx:a.eval x= .string s)(hy:a.eval y= .int k i)
 (hu:P.underlying t=some .string) (c:Int) (h0:0<=i) (h1:i<s.size) (hc:((s[i.toNat]'(by omega)).toNat:Int)=c) (h:wpList P ops Q rest (a.put o.dst (.int .u8 c)) w):wpList P ops Q (o::rest) a w:=by
 refine wpList_plain hg λK hK=> ?_
 unfold Oper.wp execOp;simp only[ho,hx,hy,Sem.run_bind,run_index_string w t s k i hu];rw[dif_pos ⟨h0,h1⟩];simp only[Result.andThen_ok,Sem.run_pure];subst hc;exact hK _ _ h
theorem BW.start (w:Wd)(s:Bw)(p:Growth) :
 BW w.heap.size w.heap.size (w.heap.size+1+p.objs.size) (w.heap.size+1+p.objs.size+1) s 0 [] w
  ((((w.alloc (.cells #[.string s] 9)).growBy p).alloc (.cells #[.pointer none,.slice none 0 0] 178)).alloc (.cells #[.int .i64 0] 3)):=by
 obtain⟨W,hW⟩:=zE ((w.alloc (.cells #[.string s] 9)).growBy p);have hs:W.heap.size=w.heap.size+1+p.objs.size:=by rw[<-hW];simp
 have hh:W.heap[w.heap.size]? =some (.cells #[.string s] 9 (0,0)):=by
  rw[<-hW,World.heap_growBy _ _ vM];exact heap_alloc_last w _
 have gV:Below w.heap.size w W:=by rw[<-hW];exact zC
 rw[hW,<-hs];have cH:(W.alloc (.cells #[.pointer none,.slice none 0 0] 178)).heap.size=W.heap.size+1:=by simp
 refine⟨(gV.alloc oM _).alloc (by rw[cH];omega) _,?_,?_,?_,oM,oM,oM,oM⟩
 ·rw[Lib.alloc_old _ _ _ (by rw[cH];omega),Lib.alloc_old _ _ _ oM];exact hh
 ·rw[<-cH];exact heap_alloc_last _ _
 ·refine Lib.IsBuilderF.alloc (.inl ⟨oM,.slice none 0 0,heap_alloc_last _ _,⟨rfl,.inl ⟨rfl,rfl⟩⟩,by simp[Value.ownBlock]⟩) _
theorem BW.byte' {B sb b kb:Nat}{s:Bw}{k:Int}{l:List UInt8}{w0 w:Wd}(h:BW B sb b kb s k l w0 w)(u:UInt8)(c:Int)(hc:(u.toNat:Int)=c)(hl:l.length+1<=140737488355328) :
 Calls prog 118 #[.pointer (some ⟨b,0,none⟩),.int .u8 c] w λe w'=>e= .returned .nilIface/\BW B sb b kb s k (l++[u]) w0 w':=by
 subst hc;exact h.byte u hl
def symC :Array Value:= #[.bool true,.bool true,.bool true,.bool true,.bool false,.bool true,.bool true,.bool true,.bool true,.bool false,.bool true,.bool false,.bool true,.bool true,.bool true,.bool false,.bool true,.bool false,.bool true,.bool false,.bool true,.bool false,.bool true,.bool false,.bool true,.bool false,.bool true,.bool true,.bool true,.bool true,.bool true,.bool true,.bool true,.bool true,.bool true,.bool true,.bool false,.bool false,.bool false,.bool true,.bool true,.bool true,.bool false,.bool false,.bool false,.bool false,.bool true,.bool false,.bool false,.bool true,.bool false,.bool false,.bool true,.bool false,.bool true,.bool false,.bool true,.bool false,.bool false,.bool false,.bool true,.bool false,.bool true]
def e3v :Array Value:= #[.bool false,.bool false,.bool false,.bool false,.bool false,.bool false,.bool false,.bool false,.bool false,.bool false,.bool false,.bool false,.bool false,.bool false,.bool false,.bool false,.bool false,.bool false,.bool false,.bool false,.bool false,.bool false,.bool false,.bool false,.bool false,.bool false,.bool false,.bool false,.bool false,.bool false,.bool false,.bool false,.bool false,.bool false,.bool false,.bool false,.bool false,.bool false,.bool false,.bool false,.bool false,.bool false,.bool false,.bool false,.bool false,.bool false,.bool false,.bool false,.bool false,.bool false,.bool false,.bool false,.bool false,.bool false,.bool false,.bool false,.bool false,.bool false,.bool false,.bool false,.bool false,.bool false,.bool false]
theorem b2o {P:Program}{ops:Array Oper}{rest:List Oper}{o:Oper}{a:Act}{w:Wd}{Q:Exit->Act->World->Prop}(hg:o.guard=none)(t:Td)(parts:Array (Nat×Operand))(ho:o.op= .build t parts)(cells:Array Value)
 (hc:P.built t (parts.map λ(i,x)=>(i,a.eval x)).toList=some cells) (h:wpList P ops Q rest (a.put o.dst (.agg cells)) w):wpList P ops Q (o::rest) a w :=
 wpList_build hg t parts ho (by rw[hc];rfl) (by rw[hc];exact h)
theorem c2i (w:Wd):Zc prog 63 #[] w (.agg symC):=by
 have hi:(prog.info? 119).map (·.size)=some symC.size:=by kernel_rfl
 have hz:∀w,(zeroValue 119).run prog w= .ok (.agg e3v) w:=λw=>by kernel_rfl
 go_enter func63,ntmps63;go_wp2_with (first|(refine b2o qM 119 _ qM symC zM ?_)|(refine wpList_store_row qM 119 _ _ qM w.heap.size symC qM qM 119 e3v (heap_alloc_last w _) zM qM (by decide +kernel) ?_;rw[World.setRow_alloc_new]));exact bodyPost_ret (results_cell_row qM _ _ w.heap.size 119 symC (0,0) _ qM (heap_alloc_last w _) underlying119 qM hi) rfl ⟨rfl,zC⟩
end
section
open Go.RowKit Go.Shelf Go.Maps
def b1q (l:List UInt8):Int:=(l.map λc=>(c.toNat:Int)).sum
theorem b9a (l:List UInt8)(c:UInt8):b1q (l++[c])=b1q l+c.toNat:=by simp[b1q]
theorem c2j (l:List UInt8):0<=b1q l/\b1q l<=255*l.length:=by
 induction l with
 |nil=>simp[b1q]
 |cons c l ih =>
  have h:b1q (c::l)=c.toNat+b1q l:=by simp[b1q]
  have:=c.toNat_lt;rw[h];simp only[List.length_cons];omega
theorem b5g (s:Bw)(k:Nat)(h:k<s.size):s.data.toList.take (k+1)=s.data.toList.take k++[s[k]]:=by
 rw[List.take_succ_eq_append_getElem (by simpa using h)];rfl
theorem b9b (s:Bw)(cap k:Nat)(h:k<s.size):(bytesRow s cap)[k]? =some (.int .u8 (s[k]).toNat):=by
 unfold bytesRow;have h2:k<(s.data.map (λb=>Value.int .u8 b.toNat)).size:=by simpa using h
 rw[Array.getElem?_append_left h2,Array.getElem?_eq_getElem h2];simp;rfl
def a5e (m k:Nat):Bool:=match symC[m*9+k]? with|some (.bool b)=>b|_=>false
def e2h (m:Nat):Array Value:= #[.bool (a5e m 0),.bool (a5e m 1),.bool (a5e m 2),.bool (a5e m 3),.bool (a5e m 4),.bool (a5e m 5),.bool (a5e m 6),.bool (a5e m 7),.bool (a5e m 8)]
theorem d4d (m:Nat)(hm:m<7)(w:Wd):(Instr.index 119 (.agg symC) (.int .i64 m)).run prog w= .ok (.agg (e2h m)) w:=by
 rcases(show m=0\/m=1\/m=2\/m=3\/m=4\/m=5\/m=6 from oM)with rfl|rfl|rfl|rfl|rfl|rfl|rfl <;> kernel_rfl
theorem d4e (r:Nat->Bool)(k:Nat)(hk:k<9)(w:Wd):(Instr.index 118 (.agg #[.bool (r 0),.bool (r 1),.bool (r 2),.bool (r 3),.bool (r 4),.bool (r 5),.bool (r 6),.bool (r 7),.bool (r 8)]) (.int .i64 k)).run prog w= .ok (.bool (r k)) w:=by
 rcases(show k=0\/k=1\/k=2\/k=3\/k=4\/k=5\/k=6\/k=7\/k=8 from oM)with rfl|rfl|rfl|rfl|rfl|rfl|rfl|rfl|rfl <;> kernel_rfl
theorem d4f (r:Nat->Bool)(k:Nat)(hk:k<6)(w:Wd):(Instr.index 126 (.agg #[.bool (r 0),.bool (r 1),.bool (r 2),.bool (r 3),.bool (r 4),.bool (r 5)]) (.int .i64 k)).run prog w= .ok (.bool (r k)) w:=by
 rcases(show k=0\/k=1\/k=2\/k=3\/k=4\/k=5 from oM)with rfl|rfl|rfl|rfl|rfl|rfl <;> kernel_rfl
theorem a2h {P:Program}{ops:Array Oper}{rest:List Oper}{o:Oper}{a:Act}{w:Wd}{Q:Exit->Act->World->Prop}(hg:o.guard=none)(t:Td)(x y:Operand)(ho:o.op= .index t x y)(vx vy v:Vu)(hx:a.eval x=vx)(hy:a.eval y=vy)
 (hv:(Instr.index t vx vy).run P w= .ok v w) (h:wpList P ops Q rest (a.put o.dst v) w):wpList P ops Q (o::rest) a w:=by
 refine wpList_plain hg λK hK=> ?_
 unfold Oper.wp execOp;simp only[ho,hx,hy,Sem.run_bind,hv];simp only[Result.andThen_ok,Sem.run_pure];exact hK _ _ h
def upE (up:Bool)(en:List (a0l×Int))(p:a0l)(id:Int):List (a0l×Int):=if up then b6k en p id else en
def a9v (i j:Int)(k:Nat):a0l:=(i+(k:Int).tmod 3-1,j+(k:Int).tdiv 3-1)
def c9s (i j id:Int)(r:Nat->Bool):Nat->List (a0l×Int)
 |0=>[]
 |k+1=>upE (r k) (c9s i j id r k) (a9v i j k) id
def b1r (i j:Int)(k n:Nat):a0l:=(i+3+3*k+(n:Int).tdiv 3,j+1-(n:Int).tmod 3)
def d3k (i j id:Int)(k:Nat)(d:Nat->Bool)(en:List (a0l×Int)):Nat->List (a0l×Int)
 |0=>en
 |n+1=>upE (d n) (d3k i j id k d en n) (b1r i j k n) id
def b2p (i j id:Int)(D:Nat->Nat->Bool)(en:List (a0l×Int)):Nat->List (a0l×Int)
 |0=>en
 |k+1=>d3k i j id k (D k) (b2p i j id D en k) 6
def a6p (i j id:Int)(r:Nat->Bool)(D:Nat->Nat->Bool)(n:Nat):List (a0l×Int):=b2p i j id D (c9s i j id r 9) n
abbrev shC (s:Sh):Array Value:= #[.int .i64 s.ax,.int .i64 s.ay,.int .i64 s.st,.int .i64 s.w,.int .i64 s.h,.int .i64 s.g]
structure PI (s:Sh)(pl:Array Value)(w:Wd)(Bs Bp mb n:Nat)(en:List (a0l×Int))(W:Wd):Prop where
 map:∃k,k<=n/\MapIs W mb k en
 sheet:Blk W Bs (shC s) 28
 place:Blk W Bp pl 66
 below:Below w.heap.size w W
 le:w.heap.size<=mb
 nes:Bs≠mb
 nep:Bp≠mb
section
variable {s:Sh}{pl:Array Value}{w W:Wd}{Bs Bp mb n:Nat}{en:List (a0l×Int)}
theorem PI.grown {W':Wd}(h:PI s pl w Bs Bp mb n en W)(hg:W.grownBy W' none):PI s pl w Bs Bp mb n en W':=by
 obtain⟨⟨k,hk,hM⟩,h1,h2,h3,h4,h5,h6⟩:=h;exact⟨⟨k,hk,hM.kept hg vM⟩,h1.kept hg vM,h2.kept hg vM,h3.grown hg h3.size (λk e=>by cases e),h4,h5,h6⟩
theorem PI.grow (h:PI s pl w Bs Bp mb n en W)(p:Growth):PI s pl w Bs Bp mb n en (W.growBy p):=h.grown (a0p W p)
theorem PI.up {n':Nat}(h:PI s pl w Bs Bp mb n en W)(hn:n<=n'):PI s pl w Bs Bp mb n' en W:=by
 obtain⟨⟨k,hk,hM⟩,h1,h2,h3,h4,h5,h6⟩:=h;exact⟨⟨k,oM,hM⟩,h1,h2,h3,h4,h5,h6⟩
theorem PI.put {W':Wd}{D:DataW Unit}{k:Nat}{p:a0l}{x:Int}(h:PI s pl w Bs Bp mb n en W)(hk:k<=n)(hD:IsMap D)(h1:(en.map (·.1)).Nodup)(h2:∀e∈en,a7v e.1)
 (h3:∀p,a7v p->has D (klS p)=b1k en p/\D.atKey (klS p) (.lit (.int .i64 0))= .lit (.int .i64 ((a7q en p).getD 0))) (hp:a7v p)
 (ho:W'.ownsMap prog 122 (plainElem prog 3) mb (k+1) (D.put (klS p) (.lit (.int .i64 x)))) (hg:W.grownBy W' (some mb)):PI s pl w Bs Bp mb (n+1) (b6k en p x) W' :=
 ⟨⟨k+1,oM,MapIs.store (W:=W) hD h1 h2 h3 hp ho⟩,h.sheet.kept hg (λe=>h.nes (Option.some.inj e).symm),h.place.kept hg (λe=>h.nep (Option.some.inj e).symm),h.below.grown hg h.below.size (λk e=>by cases e;exact h.le),h.le,h.nes,h.nep⟩
theorem PI.turn {W':Wd}{q:Nat}(h:PI s pl w Bs Bp mb n en W)(hg:W.grownBy W' (some q))(h1:q≠Bs)(h2:q≠Bp)(h3:q≠mb)(h4:w.heap.size<=q):PI s pl w Bs Bp mb n en W':=by
 obtain⟨⟨k,hk,hM⟩,k1,k2,k3,k4,k5,k6⟩:=h;exact⟨⟨k,hk,hM.kept hg (λe=>h3 (Option.some.inj e))⟩,k1.kept hg (λe=>h1 (Option.some.inj e)),k2.kept hg (λe=>h2 (Option.some.inj e)),k3.grown hg k3.size (λk e=>by cases e;exact h4),k4,k5,k6⟩
end
theorem b5h (u:Bool)(en:List (a0l×Int))(p:a0l)(id:Int):(upE u en p id).length<=en.length+1:=by
 unfold upE;split
 ·exact c2c _ _ _
 ·omega
theorem b2q (i j id:Int)(r:Nat->Bool):∀k,(c9s i j id r k).length<=k
 |0=>yR _
 |k+1=>Nat.le_trans (b5h _ _ _ _) (by have:=b2q i j id r k;omega)
theorem b2r (i j id:Int)(k:Nat)(d:Nat->Bool)(en:List (a0l×Int)):∀n,(d3k i j id k d en n).length<=en.length+n
 |0=>yR _
 |n+1=>Nat.le_trans (b5h _ _ _ _) (by have:=b2r i j id k d en n;omega)
theorem b0u (i j id:Int)(D:Nat->Nat->Bool)(en:List (a0l×Int)):∀k,(b2p i j id D en k).length<=en.length+6*k
 |0=>yR _
 |k+1=>Nat.le_trans (b2r i j id k (D k) _ 6) (by have:=b0u i j id D en k;omega)
theorem Dts.up {n:Nat}{A B:Wd}{sv:Vu}{l:List Dt}(h:Dts n A sv l)(hb:Below n A B)(hn:n<=B.heap.size):Dts B.heap.size B sv l:=(h.below hb).mono hn
end
section
open Go.RowKit Go.Shelf
def d7y (s:Bw):Prop:=∀i (h:i<s.size),48<=(s[i]).toNat/\(s[i]).toNat<=57
def b1s (b:Nat)(s:Bw)(w:Wd):Nat:=match w.heap[b]? with|some (.stringIter _ p)=>s.size-p|_=>0
theorem a5z (w:Wd)(s:Bw)(n:Nat):b1s w.heap.size s (w.iter s n)=s.size-n:=by
 unfold b1s;rw[World.iter_heap]
theorem c6o (s:Bw)(hd:d7y s)(hl:s.size<=1000000)(w:Wd):Zc prog 113 #[.string s] w (.bool true):=by
 go_enter func113,ntmps113;go_wp2_with fail;go_loopw [7] (λ_ W=>∃n:Nat,n<=s.size/\W=w.iter s n) (λ_ W=>b1s w.heap.size s W)
 case atStart=>exact⟨0,Nat.zero_le _,rfl⟩
 case round =>
  obtain⟨n,hn,rfl⟩:=hrel;by_cases ag:n<s.size
  ·obtain⟨h0,h1⟩:=hd n ag
   have hr:∀ty,(Instr.next (.pointer (some ⟨w.heap.size,0,none⟩)) true ty).run prog (w.iter s n)= .ok (.tuple #[.bool true,.int .i64 n,.int .i32 (s[n]'ag).toNat]) (w.iter s (n+1)):=λty=>run_next_ascii w s n ty ag oM
   obtain⟨c,hc⟩:=zE ((s[n]'ag).toNat);rw[hc]at h0 h1 hr;clear hc hd;have k0:¬(c:Int)<32:=oM;have k1:¬(126:Int)<c:=oM;have k2:¬(c:Int)=34:=oM;go_wp2_with fail;go_roundw
   case rel=>exact⟨n+1,oM,rfl⟩
   case measure=>rw[a5z,a5z];omega
  ·obtain rfl:n=s.size:=oM
   have hr:∀ty,(Instr.next (.pointer (some ⟨w.heap.size,0,none⟩)) true ty).run prog (w.iter s s.size)= .ok (.tuple #[.bool false]) (w.iter s s.size):=λty=>run_next_end w s s.size ty oM
   exact ydq
theorem d4g (l:List UInt8)(c:UInt8)(r:List UInt8)(h:l=c::r)(hc:c.toNat<=57):∀x∈wordsL,Lib.hasPrefix l x.data.toList=false:=by
 subst h;have h2:∀a:UInt8,97<=a.toNat->(a==c)=false:=λa ha=>by
  rw[beq_eq_false_iff_ne];intro e;subst e;omega
 intro x hx;simp only[wordsL,List.mem_cons,List.not_mem_nil,or_false]at hx;rcases hx with rfl|rfl|rfl|rfl|rfl|rfl|rfl|rfl|rfl|rfl|rfl <;>
 ·unfold Lib.hasPrefix
  simp only[List.isPrefixOf_cons_cons];rw[h2 _ jM];rfl
theorem c2k (x s:Bw)(k:Nat)(sb kb:Nat)(w:Wd)(iB:k<s.size)(hl:s.size<=1000000)(hs:w.cell? ⟨sb,0,none⟩=some (.string s))(hk:w.cell? ⟨kb,0,none⟩=some (.int .i64 k)) :
 Calls prog 116 #[.string x,.pointer (some ⟨sb,0,none⟩),.pointer (some ⟨kb,0,none⟩)] w λe w'=>e= .returned (.bool (Lib.hasPrefix ((s.data.toList.drop k).take (s.size-k)) x.data.toList))/\w'=w:=by
 go_enter func116,ntmps116;go_wp2_with (go_at_call 117;refine(Tryz.strings_HasPrefix _ _ _).mono ?_;rintro e w'⟨rfl,rfl⟩);go_ret;exact⟨rfl,rfl⟩
theorem c9t (s:Bw)(k:Nat)(h:k<s.size):∃r,(s.data.toList.drop k).take (s.size-k)=s[k]::r:=by
 have h2:k<s.data.toList.length:=by simpa using h
 rw[List.drop_eq_getElem_cons h2,show s.size-k=(s.size-k-1)+1 from by omega,List.take_succ_cons];exact⟨_,rfl⟩
theorem c6p (s:Bw)(k sb kb:Nat)(w:Wd)(hd:d7y s)(iB:k<s.size)(hl:s.size<=1000000)(hs:w.cell? ⟨sb,0,none⟩=some (.string s))(hk:w.cell? ⟨kb,0,none⟩=some (.int .i64 k)) :
 Calls prog 114 #[.slice (some ⟨w.heap.size,0,none⟩) 11 11,.func (.func 116) #[] #[.pointer (some ⟨sb,0,none⟩),.pointer (some ⟨kb,0,none⟩)]] (w.alloc (.cells a2w 9)) λe w'=>e= .returned (.int .i64 (-1))/\∃q,w'=(w.alloc (.cells a2w 9)).drewN q:=by
 have hc:∀j,j<wordsL.length->(w.alloc (.cells a2w 9)).cell? ⟨w.heap.size,0+j,none⟩=some (Value.string wordsL[j]!):=by
  exact yek
 have hp:PredAt prog 116 #[.pointer (some ⟨sb,0,none⟩),.pointer (some ⟨kb,0,none⟩)] Value.string (λx=>Lib.hasPrefix ((s.data.toList.drop k).take (s.size-k)) x.data.toList) (w.alloc (.cells a2w 9)):=by
  exact ycr
 refine(Tryz.slices_IndexFunc_f114 Value.string (λx=>Lib.hasPrefix ((s.data.toList.drop k).take (s.size-k)) x.data.toList) 116 _ (enters_of func116 zM rfl) w.heap.size 0 11 11 wordsL _ hp jM jM hc).mono ?_;rintro e w'⟨rfl,h⟩;refine⟨?_,h⟩;obtain⟨r,hr⟩:=c9t s k iB;have h2:Lib.idxBy (λ_ y=>Lib.hasPrefix ((s.data.toList.drop k).take (s.size-k)) y.data.toList) (wordsL.take 11) default = -1:=c5h _ 0 (λx hx=>d4g _ _ _ hr (hd k iB).2 x (List.mem_of_mem_take hx));rw[h2]
theorem b9c (c:Int)(h0:48<=c)(h1:c<=57)(w:Wd):Calls prog 120 #[.string ⟨#[32,44,39,45,46]⟩,.int .u8 c] w λe w'=>e= .returned (.int .i64 (-1))/\w'=w:=by
 refine(Tryz.strings_IndexByte _ _ _).mono ?_;rintro e w'⟨rfl,rfl⟩;have:∀n:Nat,n<10->Lib.indexByte (⟨#[32,44,39,45,46]⟩:ByteArray).data.toList ((48+(n:Int)).toNat.toUInt8) = -1:=by decide +kernel
 have h2:=this (c-48).toNat oM;rw[show 48+(((c-48).toNat:Nat):Int)=c from by omega]at h2;exact⟨by rw[h2],rfl⟩
def a8u (c:Nat):Nat:=match c with|48=>26|49=>1|50=>3|51=>9|52=>25|53=>17|54=>11|55=>27|56=>19|_=>10
def lettersB :ByteArray:=⟨#[1,3,9,25,17,11,27,19,10,26,5,7,13,29,21,15,31,23,14,30,37,39,58,45,61,53]⟩
def a8m (s:Bw):Nat->List UInt8
 |0=>[]
 |n+1=>(if n=0 then [60]else a8m s n)++[(a8u (s[n]!).toNat).toUInt8]
theorem b1t (s:Bw):∀n,(a8m s n).length<=n+1
 |0=>Nat.zero_le _
 |n+1=>by
  unfold a8m;have:=b1t s n;exact ykx
theorem a1i {x:Int}(h0 : -9223372036854775808<=x)(h1:x<=9223372036854775807):IntKind.i64.wrap x=x:=by
 exact ydm
theorem c6q (c:Nat)(h0:48<=c)(h1:c<=57)(hh:(((c:Int)-48+9) % 10).toNat<lettersB.size):((lettersB[(((c:Int)-48+9) % 10).toNat]'hh).toNat:Int)=(a8u c:Nat):=by
 rcases(show c=48\/c=49\/c=50\/c=51\/c=52\/c=53\/c=54\/c=55\/c=56\/c=57 from oM)with rfl|rfl|rfl|rfl|rfl|rfl|rfl|rfl|rfl|rfl <;> rfl
theorem c9u (c:Nat):a8u c<256:=by
 unfold a8u;split <;> omega
theorem BW.byteN {B sb b kb:Nat}{s:Bw}{k:Int}{l:List UInt8}{w0 w:Wd}(h:BW B sb b kb s k l w0 w)(c:Nat)(hc:c<256)(hl:l.length+1<=140737488355328) :
 Calls prog 118 #[.pointer (some ⟨b,0,none⟩),.int .u8 c] w λe w'=>e= .returned .nilIface/\BW B sb b kb s k (l++[c.toUInt8]) w0 w' :=
 h.byte' c.toUInt8 c uM hl
def kOf (v:Vu)(W:Wd):Nat:=match v with | .pointer (some a)=>(match W.cell? a with|some x=>(intOf x).toNat|none=>0)|_=>0
theorem BW.kOf {B sb b kb:Nat}{s:Bw}{k:Int}{l:List UInt8}{w0 w:Wd}(h:BW B sb b kb s k l w0 w):kOf (.pointer (some ⟨kb,0,none⟩)) w=k.toNat:=by
 unfold Go.Proofs.YtfocdbjceedagaaGreatDoor.kOf;simp only[h.ck,intOf]
theorem c6r (s:Bw)(hd:d7y s)(hl:s.size<=1000)(w:Wd):Zc prog 64 #[.string s] w (.tuple #[.string ⟨(a8m s s.size).toArray⟩,.int .i64 0]):=by
 go_enter func64,ntmps64;go_wp2_with (first
  |(go_at_call 113;refine(c6o s hd oM _).mono ?_;rintro e w'⟨rfl,al⟩;obtain⟨p,rfl⟩:=a0c al;clear al))
 have hB:=BW.start w s p;obtain⟨W,hW⟩:=zE (((((w.alloc (.cells #[.string s] 9)).growBy p).alloc (.cells #[.pointer none,.slice none 0 0] 178)).alloc (.cells #[.int .i64 0] 3)));obtain⟨b,hb⟩:=zE (w.heap.size+1+p.objs.size);rw[hW]at hB ⊢;rw[hb]at hB ⊢;obtain⟨kb,lQ⟩:=zE (b+1);obtain⟨sb,ni⟩:=zE w.heap.size;rw[lQ]at hB ⊢;rw[ni]at hB ⊢;replace ni:=Lib.hid ni;clear lQ hb hW;go_loopw [5] (λv wr=>∃(n kb:Nat),v= .pointer (some ⟨kb,0,none⟩)/\n<=s.size/\BW sb sb b kb s n (a8m s n) w wr) (λv wr=>s.size-kOf v wr)
 case atStart=>exact⟨0,kb,rfl,Nat.zero_le _,hB⟩
 case round =>
  clear hB;obtain⟨n,kb,rfl,hn,hB⟩:=hrel;have dN:=hB.cs;have aB:=hB.ck;have Cp:=hB.fk;have Bh:=Lib.hid (hB.kOf);have rS:=b1t s n;by_cases ag:n<s.size
  ·have aA:(n:Int)<(s.size:Int):=oM
   obtain⟨d0,d1⟩:=hd n ag;have aP:a8m s (n+1)=(if n=0 then [60]else a8m s n)++[(a8u (s[n]'ag).toNat).toUInt8]:=by
    exact yjv
   have ox:=c6p s n sb kb;obtain⟨c,hc⟩:=zE ((s[n]'ag).toNat);rw[hc]at d0 d1 aP;have Ct:(lettersB.size:Int)=26:=rfl;have pg:=c6q c d0 d1;have sj:=c9u c;by_cases fE:n=0
   ·subst fE
    simp only[if_true]at aP;replace aP:=Lib.hid aP;have h60:∀q,Calls prog 118 #[.pointer (some ⟨b,0,none⟩),.int .u8 60] ((wr.alloc (.cells a2w 9)).drewN q) λe w'=>e= .returned .nilIface/\BW sb sb b kb s 0 ([]++[60]) w w':=λq=>((hB.alloc _).drewN q).byte' 60 60 rfl oM
    clear hB;go_wp2_with (first
     |(refine a0k qM 9 _ _ qM s .i64 0 qM qM underlying9 c oM oM (by rw[<-hc];rfl) ?_)
     |(refine a0k qM 9 _ _ qM lettersB .u8 (((c:Int)-48+9) % 10) qM qM underlying9 (a8u c:Nat) oM oM (pg _) ?_)
     |(go_at_call 115;refine(a6o _).mono ?_;rintro e w'⟨rfl,rfl⟩)
     |(go_at_call 114;refine(ox _ hd ag oM dN aB).mono ?_;rintro e w'⟨rfl,q,rfl⟩)
     |(go_at_call 120;refine(b9c c oM oM _).mono ?_;rintro e w'⟨rfl,rfl⟩)
     |(go_at_call 119;refine(a5f c true uM _).mono ?_;rintro e w'⟨rfl,rfl⟩)
     |(go_at_call 118;with_reducible refine(h60 q).mono ?_;rintro e w1⟨rfl,dq⟩;have uL:=dq.cs;have LA:=dq.ck;have LB:=dq.fk)
     |(go_at_call 118;with_reducible refine(dq.byteN (a8u c) sj vM).mono ?_;rintro e w2⟨rfl,aG⟩;have rR:=aG.cs;have Cu:=aG.ck;have Cv:=aG.fk))
    refine⟨⟨1,w2.heap.size,rfl,oM,?_⟩,?_⟩
    ·rw[aP.out]
     exact aG.newk 1
    ·rw[(aG.newk 1).kOf,Bh.out]
     simp;omega
   ·have eP:0<(n:Int):=oM
    have iP:¬(n:Int)<=0:=oM;obtain⟨e0,e1⟩:=hd (n-1) oM;have qa:IntKind.i64.wrap ((n:Int)-1)=(n:Int)-1:=a1i oM oM;have aE:IntKind.i64.wrap ((n:Int)+1)=(n:Int)+1:=a1i oM oM;rw[if_neg fE]at aP;replace aP:=Lib.hid aP;have Ha:∀q,Calls prog 118 #[.pointer (some ⟨b,0,none⟩),.int .u8 (a8u c:Nat)] ((wr.alloc (.cells a2w 9)).drewN q) λe w'=>e= .returned .nilIface/\BW sb sb b kb s n (a8m s n++[(a8u c).toUInt8]) w w':=λq=>((hB.alloc _).drewN q).byteN (a8u c) sj oM
    clear hB;go_wp2_with (first
     |(refine a0k qM 9 _ _ qM s .i64 (n:Nat) qM qM underlying9 c oM oM (by rw[<-hc];rfl) ?_)
     |(refine a0k qM 9 _ _ qM lettersB .u8 (((c:Int)-48+9) % 10) qM qM underlying9 (a8u c:Nat) oM oM (pg _) ?_)
     |(go_at_call 115;refine(a6o _).mono ?_;rintro e w'⟨rfl,rfl⟩)
     |(go_at_call 114;refine(ox _ hd ag oM dN aB).mono ?_;rintro e w'⟨rfl,q,rfl⟩)
     |(go_at_call 120;refine(b9c c oM oM _).mono ?_;rintro e w'⟨rfl,rfl⟩)
     |(go_at_call 119;with_reducible refine(a5f c true uM _).mono ?_;rintro e w'⟨rfl,rfl⟩)
     |(go_at_call 119;with_reducible refine(a5f _ true uM _).mono ?_;rintro e w'⟨rfl,rfl⟩)
     |(go_at_call 118;with_reducible refine(Ha q).mono ?_;rintro e w2⟨rfl,aG⟩;have rR:=aG.cs;have Cu:=aG.ck;have Cv:=aG.fk))
    refine⟨⟨n+1,w2.heap.size,rfl,oM,?_⟩,?_⟩
    ·rw[aP.out]
     exact aG.newk _
    ·rw[(aG.newk _).kOf,Bh.out]
     simp;omega
  ·obtain rfl:n=s.size:=oM
   go_wp2_with (first
    |(go_at_call 121;refine(Tryz.Builder_String_any_k sb b (a8m s s.size) _ hB.bld hB.le).mono ?_;rintro e w3⟨rfl,ku,aV,vl⟩))
   go_ret2;exact⟨rfl,by rw[ni.out];exact hB.below.trans aV⟩
abbrev e2a (l:List UInt8):List Value:=l.map λb=> .int .u8 (b.toNat:Int)
structure OB (w:Wd)(B:Nat)(v:Vu)(l:List UInt8)(W:Wd):Prop where
 row:W.ownsRow B 5 1 v l.length (e2a l)
 below:Below w.heap.size w W
 lb:B<=W.heap.size
 wb:w.heap.size<=B
section
variable {w W W':Wd}{B:Nat}{v:Vu}{l:List UInt8}
theorem OB.grown (h:OB w B v l W)(hg:W.grownBy W' none):OB w B v l W' :=
 ⟨by
  refine h.row.kept hg ?_;rcases h.row.2 with⟨rfl,_⟩|⟨g,cap,cur,rfl,_⟩
  ·exact .inl rfl
  ·exact .inr (λe=>by cases e),h.below.grown hg h.below.size (λk e=>by cases e),Nat.le_trans h.lb hg.size,h.wb⟩
theorem OB.alloc (h:OB w B v l W)(o:Obj):OB w B v l (W.alloc o):=h.grown (World.grownBy_alloc W o none)
theorem OB.up (h:OB w B v l W)(hb:Below W.heap.size W W'):OB w B v l W':=h.grown (a0t hb)
end
def b6o (n:Nat):UInt8:=(48+n % 10).toUInt8
def FDec (n m r:Nat)(txt:Bw)(i:Nat)(v:Vu)(w:Wd):Prop :=
 match i with
 |0=>v= .int .i64 (n:Nat)
 |1=>v= .int .i64 (m:Nat)
 |2=>v= .string txt
 |3=>v= .int .i64 (n:Nat)
 |4=>v= .int .i64 (r:Nat)
 |5=>v= .int .i64 (48+(r:Nat))
 |6=>v= .int .u8 (48+(r:Nat))
 |7=>∃L,v= .slice (some ⟨L,0,none⟩) 1 1/\Blk w L #[.int .u8 (48+(r:Nat))] 5
 |8=>v= .string ⟨#[b6o n]⟩
 |_=>False
theorem FDec.kept {n m r:Nat}{txt:Bw}{i:Nat}{v:Vu}{w w':Wd}(h:FDec n m r txt i v w)(hg:Below w.heap.size w w'):FDec n m r txt i v w':=by
 unfold FDec at *;exact yel
theorem a3j :∀(k n:Nat),n<10 ^ (k+1)->(Lib.decDigits n).length<=k+1
 |0,n,h=>by
  rw[Lib.decDigits,dif_pos (by simpa using h)];simp
 |k+1,n,h=>by
  rw[Lib.decDigits];split
  ·simp
  ·have h2:=a3j k (n / 10) (by rw[Nat.pow_succ]at h;omega)
   rw[List.length_append];simp;omega
def a7s (n:Nat):ByteArray:=⟨(Lib.decDigits n).toArray⟩
theorem a5h (n:Nat):(a7s n).size=(Lib.decDigits n).length:=by
 show(Lib.decDigits n).toArray.size=_;simp
theorem b2s (n:Nat):d7y (a7s n):=by
 have h:∀k n,n<k->∀c∈Lib.decDigits n,48<=c.toNat/\c.toNat<=57:=by
  intro k;induction k with
  |zero=>intro n h;omega
  |succ k ih =>
   intro n h c hc;rw[Lib.decDigits]at hc;have hd:∀m,m<10->48<=(UInt8.ofNat (48+m)).toNat/\(UInt8.ofNat (48+m)).toNat<=57:=λm hm=>by
    rw[UInt8.toNat_ofNat'];omega
   split at hc
   ·rename_i hn
    rw[List.mem_singleton.1 hc];exact hd n hn
   ·rcases List.mem_append.1 hc with hc|hc
    ·exact ih (n / 10) oM c hc
    ·rw[List.mem_singleton.1 hc]
     exact hd _ (Nat.mod_lt _ oM)
 intro i hi;have hl:i<(Lib.decDigits n).length:=by rw[<-a5h];exact hi
 exact h (n+1) n oM _ (List.getElem_mem hl)
end
section
open Go
structure Lf where
 p:Int
 k:Int
 i:Int
deriving DecidableEq
structure Ke where
 n:Int
 p:Int
 c:ByteArray
deriving DecidableEq
structure Pn where
 dots:List Dt
 keys:List Ke
 left:List Lf
def a8v (g:Int)(a b:Dt):Bool:=(decide (a.k≠b.k)||decide (a.i≠b.i))&&(decide (max (a.x-b.x) (b.x-a.x)<g)&&decide (max (a.y-b.y) (b.y-a.y)<g))
def a5i (g:Int)(l o:List Dt):Option Dt:=l.find? λa=>o.any (a8v g a)
section
variable (g:Int)(pf:Pc->Bool×List Dt)(kf:Pc->List Ke)
def c9v (dots:List Dt)(p:Pc):Option Lf :=
 if(pf p).1 then(a5i g dots (pf p).2).map λd=>⟨p.id,d.k,d.i⟩else some ⟨p.id,0,0⟩
def a3k (pl:Pn)(p:Pc):Pn :=
 match c9v g pf pl.dots p with
 |some x=>{ pl with left:=pl.left++[x] }
 |none=>{ pl with dots:=pl.dots++(pf p).2,keys:=pl.keys++kf p }
def a5j (wd:List Dt)(ps:List Pc):Pn:=ps.foldl (a3k g pf kf) ⟨wd,[],[]⟩
def why (pl:Pn)(id:Int):Option Nat:=pl.left.findIdx? λl=>decide (l.p=id)
structure CD where
 want:List Dt
 left:Nat
 last:List Int
def a2l (pl:Pn)(st:CD)(p:Pc):Option CD :=
 if p.id∈st.last then none
 else match why pl p.id with
  |some k=>if k=st.left then some ⟨st.want,st.left+1,p.id::st.last⟩else none
  |none=>if(pf p).1 then some ⟨st.want++(pf p).2,st.left,p.id::st.last⟩else none
def cdF (pl:Pn)(wd:List Dt)(ps:List Pc):Bool :=
 match ps.foldlM (a2l pf pl) ⟨wd,0,[]⟩with
 |none=>false
 |some st=>decide (st.left=pl.left.length)&&decide (st.want=pl.dots)
def a5k (a b:Dt):Bool:=(decide (a.k≠3)&&decide (b.k≠3))|| !a8v g a b
def b1m (l:List Dt):Bool:=(List.range l.length).all λk=>(l.take k).all λb=>match l[k]? with|some a=>a5k g a b|none=>true
def a1p (pl:Pn)(ps:List Pc):List Ke:=ps.flatMap λp=>if(why pl p.id).isNone then kf p else []
def b1u (pl:Pn)(bT:List Int)(p:Pc)(l:Lf):Bool :=
 if l.k=0/\l.i=0 then !(pf p).1
 else(pf p).1&&(decide (l.k=2)||(decide (l.k=3)&&decide (l.i≠p.id)&&decide (l.i∈p.id::bT)))&&(a5i g (pl.dots.filter λd=>decide (d.k=l.k)&&decide (d.i=l.i)) (pf p).2).isSome
def a1m (pl:Pn)(bT:List Int)(p:Pc):Option (List Int) :=
 match(why pl p.id).bind λk=>pl.left[k]? with
 |none=>some (p.id::bT)
 |some l=>if p.id∈bT then some (p.id::bT)else if b1u g pf pl bT p l then some (p.id::bT)else none
def a1r (pl:Pn)(ps:List Pc):Bool:=(ps.foldlM (a1m g pf pl) []).isSome
def a8w (pl:Pn)(wd:List Dt)(ps:List Pc):Int :=
 if cdF pf pl wd ps then if b1m g pl.dots then if a1p kf pl ps=pl.keys then if a1r g pf pl ps then 0 else 42 else 42 else 41 else 42
end
section
variable {g:Int}{pf:Pc->Bool×List Dt}{kf:Pc->List Ke}
theorem a4i (wd:List Dt)(qs:List Pc)(p:Pc):a5j g pf kf wd (qs++[p])=a3k g pf kf (a5j g pf kf wd qs) p:=by
 unfold a5j;rw[List.foldl_append];rfl
theorem a6q {pl:Pn}{p:Pc}{x:Lf}(h:c9v g pf pl.dots p=some x):a3k g pf kf pl p={ pl with left:=pl.left++[x] }:=by
 unfold a3k;rw[h]
theorem a8b {pl:Pn}{p:Pc}(h:c9v g pf pl.dots p=none):a3k g pf kf pl p={ pl with dots:=pl.dots++(pf p).2,keys:=pl.keys++kf p }:=by
 unfold a3k;rw[h]
theorem e0f {dots:List Dt}{p:Pc}{x:Lf}(h:c9v g pf dots p=some x):x.p=p.id:=by
 unfold c9v at h;split at h
 ·obtain⟨d,-,rfl⟩:=Option.map_eq_some_iff.1 h
  rfl
 ·cases h
  rfl
theorem a4s {α:Type}{Q:List α->Prop}(h0:Q [])(hs:∀l x,Q l->Q (l++[x]))(l:List α):Q l:=by
 have h:∀l:List α,Q l.reverse:=by
  intro l;induction l with
  |nil=>exact h0
  |cons x l ih=>rw[List.reverse_cons];exact hs _ x ih
 have:=h l.reverse;rwa [List.reverse_reverse]at this
theorem d4h (wd:List Dt)(qs:List Pc):∀rs:List Pc,∃D K L,a5j g pf kf wd (qs++rs)=⟨(a5j g pf kf wd qs).dots++D,(a5j g pf kf wd qs).keys++K,(a5j g pf kf wd qs).left++L⟩/\(∀x∈L,x.p∈rs.map Pc.id)/\(∀d∈D,∃p∈rs,d∈(pf p).2):=by
 refine a4s ⟨[],[],[],by simp,by simp,by simp⟩ λrs p ih=> ?_
 ·obtain⟨D,K,L,h,hL,hD⟩:=ih
  rw[<-List.append_assoc,a4i,h]
  cases ho:c9v g pf ((a5j g pf kf wd qs).dots++D) p with
  |some x =>
   rw[a6q ho];refine⟨D,K,L++[x],by simp,λy hy=> ?_,λd hd=> ?_⟩
   ·rcases List.mem_append.1 hy with hy|hy
    ·exact yks
    ·rw[List.mem_singleton]at hy
     subst hy;rw[e0f ho];simp
   ·obtain⟨q,hq,h2⟩:=hD d hd
    exact⟨q,List.mem_append_left _ hq,h2⟩
  |none =>
   rw[a8b ho];refine⟨D++(pf p).2,K++kf p,L,by simp,λy hy=> ?_,λd hd=> ?_⟩
   ·exact yks
   ·rcases List.mem_append.1 hd with hd|hd
    ·obtain⟨q,hq,h2⟩:=hD d hd
     exact⟨q,List.mem_append_left _ hq,h2⟩
    ·exact⟨p,by simp,hd⟩
theorem b2t (wd:List Dt)(qs:List Pc):∀d∈(a5j g pf kf wd qs).dots,d∈wd\/∃p∈qs,d∈(pf p).2:=by
 obtain⟨D,K,L,h,-,hD⟩:=d4h (g:=g) (pf:=pf) (kf:=kf) wd [] qs;rw[List.nil_append]at h;rw[h];intro d hd;rcases List.mem_append.1 hd with h1|h1
 ·exact .inl (by simpa[a5j]using h1)
 ·exact .inr (hD d h1)
theorem b9d {l:List Dt}:b1m g l=true↔l.Pairwise λb a=>a5k g a b=true:=by
 unfold b1m;rw[List.all_eq_true];rw[List.pairwise_iff_getElem];constructor
 ·intro h i j hi hj ee
  have h1:=h j (by simpa using hj);rw[List.all_eq_true]at h1;have h2:=h1 l[i] (List.mem_take_iff_getElem.2 ⟨i,oM,rfl⟩);rw[List.getElem?_eq_getElem hj]at h2;exact h2
 ·intro h k hk
  have Fp:k<l.length:=by simpa using hk
  rw[List.all_eq_true];intro b hb;obtain⟨i,hi,rfl⟩:=List.mem_take_iff_getElem.1 hb;rw[List.getElem?_eq_getElem Fp];exact h i k oM Fp oM
end
end
section
open Go.RowKit Go.Shelf Go.Lib Go.Sort
variable{n:Nat}
theorem b9e {W:Wd}{b b':Nat}{e:Td}{s:Nat}{v:Vu}{xs:List Value}(h:W.ownsRow b e s v n xs)(hb:b'<=b):W.ownsRow b' e s v n xs:=by
 refine⟨h.1,h.2.imp id ?_⟩;rintro⟨g,cap,cur,h1,h2,h3⟩;exact⟨g,cap,cur,h1,oM,h3⟩
theorem a1l {w w':Wd}{o:Option Nat}(hg:w.grownBy w' o)(hn:n<=w.heap.size)(h:∀k,o=some k->n<=k):Below n w w' :=
 ⟨hg.os,hg.tape,hg.output,hg.size,λk hk=>hg.block k (Nat.lt_of_lt_of_le hk hn) (λe=>by have:=h k e.symm;omega)⟩
theorem c2l (blk off cap N n:Nat)(d:Array Pc)(w:Wd)(hW:SoW w blk off N n d w)(hn:n<=1000):
 Calls prog 170 #[.slice (some ⟨blk,off,none⟩) n cap,.int .i64 0,.int .i64 (n:Nat),.func (.func 103) #[] #[]] w λe w'=>e= .returned (.tuple #[])/\SoW w blk off N n (insertionSort (ltOf a1o) d 0 n) w':=by
 have mixed:prog.follows .mixedOrders=true:=by kernel_rfl
 have HW:Hid (SoW w blk off N n d w):=hW;clear hW;go_enter func170,ntmps170;go_wp2_with fail;go_loopw [8] (λvi wr=>∃(i:Nat) (dk:Array Pc),vi= .int .i64 (i:Nat)/\1<=i/\i<=n+1/\Hid (SoW w blk off N n dk wr)/\Hid (insOuter (ltOf a1o) 0 n i dk=insOuter (ltOf a1o) 0 n 1 d)) (λvi _=>n+1-(intOf vi).toNat)
 case atStart=>exact⟨1,d,rfl,oM,oM,HW,rfl⟩
 case round =>
  obtain⟨i,dk,rfl,el,bP,HR,HO⟩:=hrel;by_cases ag:i<n
  ·have aA:(i:Int)<(n:Int):=oM
   go_wp2_with fail;go_loopw [9] (λvj Hb=>∃(j:Nat) (dj:Array Pc),vj= .int .i64 (j:Nat)/\j<=i/\Hid (SoW w blk off N n dj Hb)/\Hid (insInner (ltOf a1o) 0 j dj=insInner (ltOf a1o) 0 i dk)) (λvj _=>(intOf vj).toNat)
   case atStart=>exact⟨i,dk,rfl,oM,HR,rfl⟩
   case round =>
    obtain⟨j,dj,rfl,ja,HJ,HI⟩:=hrel;have out:Hid ((j=0\/ltOf a1o dj[j]! dj[j-1]! =false)->insOuter (ltOf a1o) 0 n (i+1) dj=insOuter (ltOf a1o) 0 n 1 d):=λhs=>by
     rw[<-HO.out,insOuter_go _ _ _ _ _ ag,<-HI.out,insInner_stop _ _ _ _ (hs.imp (λe=>by omega) id)]
    by_cases fC:0<j
    ·have xr:(0:Int)<(j:Int):=oM
     obtain⟨jp,rfl⟩:∃jp,j=jp+1:=⟨j-1,oM⟩;have vm:jp+1<dj.size:=by rw[HJ.out.sz];omega
     obtain⟨xj,xu⟩:=zE (dj[jp+1]!);obtain⟨xp,jH⟩:=zE (dj[jp]!);obtain⟨a0,a1,a2,a3,a4,a5,a6⟩:=xu▸HJ.out.row.pc vm;obtain⟨b0,b1,b2,b3,b4,b5,b6⟩:=jH▸HJ.out.row.pc (j:=jp) oM;have HX:Hid (dj[jp+1]! =xj/\dj[jp]! =xp):=⟨xu,jH⟩;obtain⟨cv,fL⟩:=zE (a1o xj xp);have j8:∀W,Zc prog 103 #[plV xj,plV xp] W (.int .i64 cv):=λW=>by rw[<-fL];exact a6m xj xp W
     have HC:Hid (a1o xj xp=cv):=fL;clear xu jH fL;obtain⟨i1,x1,y1,tD,n1,xw,d1⟩:=xj;obtain⟨i2,x2,y2,tE,n2,rY,d2⟩:=xp;have Fq:IntKind.i64.wrap (jp:Int)=(jp:Int):=by rw[IntKind.wrap_i64];omega
     have Hc:(jp:Int)+1<(n:Int):=oM;have Cw:(jp:Int)<(n:Int):=oM;have dz:(0:Int)<=(jp:Int)+1:=oM;have tF:((jp:Int)+1).toNat=jp+1:=oM;by_cases aJ:cv<0
     ·go_wp2_with fail
      refine zR2 λp=> ?_
      go_upto_region 6 with fail;obtain⟨W2,bV⟩:=zE (wr.growBy p);rw[bV];have mB:SoW w blk off N n dj W2:=by rw[<-bV];exact HJ.out.below (below_growBy _ _)
      clear a0 a1 a2 a3 a4 a5 a6 b0 b1 b2 b3 b4 b5 b6 bV j8;obtain⟨a0,a1,a2,a3,a4,a5,a6⟩:=HX.out.1▸mB.row.pc vm;obtain⟨b0,b1,b2,b3,b4,b5,b6⟩:=HX.out.2▸mB.row.pc (j:=jp) oM;obtain⟨f0,f1,f2,f3,f4,f5,f6⟩:=mB.row.pf vm;obtain⟨g0,g1,g2,g3,g4,g5,g6⟩:=mB.row.pf (j:=jp) oM;have Al:=Lib.hid (mB.swap (j:=jp) oM);have OC:jp+1<n:=oM;replace mB:=Lib.hid mB;simp only at a0 a1 a2 a3 a4 a5 a6 b0 b1 b2 b3 b4 b5 b6;go_big_region_o
      all_goals go_wp2_with fail
      go_roundw
      case rel =>
       refine⟨jp,swp dj (jp+1) jp,by go_num,oM,?_,?_⟩
       ·exact yib
       ·show _=_
        have h4:=insInner_go (ltOf a1o) 0 (jp+1) dj oM (by rw[HX.out.1,show jp+1-1=jp from rfl,HX.out.2,d3s,HC.out];exact aJ);rw[<-HI.out,h4];rfl
      case measure=>exact yaz
     ·exact ydn
    ·obtain rfl:j=0:=oM
     have xr:¬(0:Int)<((0:Nat):Int):=oM;have Lr:=out.out (.inl rfl);go_wp2_with fail;go_big_region_o
     all_goals go_wp2_with fail
     exact yjb
  ·have iF:¬(i:Int)<(n:Int):=oM
   exact ygu
end
section
open Go Go.RowKit Go.Shelf
section
variable {α:Type}{E:El α}{P:Program}{st:Td}
theorem El.append_join (hE:E.Ok)(hI:E.In P st)(W:Wd)(base:Nat)(v xv:Vu)(l l2:List α)(ty:Td)(hv:W.ownsRow base E.t E.s v l.length (l.flatMap E.enc))(bR:∃g c,v= .slice (some ⟨g,0,none⟩) l.length c){n0:Nat}(hx:Lst E n0 W xv l2)(hf:Frm xv l2.length)(hl:l.length+l2.length<=100000)(hb:base<=W.heap.size) :
 ∃v' W',(Builtin.append_ #[st,st] ty #[v,xv]).run P W= .ok v' W'/\W'.ownsRow base E.t E.s v' (l++l2).length ((l++l2).flatMap E.enc)/\W.grownBy W' v.ownBlock/\Below base W W'/\∃g cap,v'= .slice (some ⟨g,0,none⟩) (l++l2).length cap:=by
 obtain⟨i0,z,aT,bM,aW,bF,lZ⟩:=hI.info;obtain⟨g,c,rfl⟩:=bR;by_cases av:l2=[]
 ·subst av
  have hs:Src P i0.size st xv 0 [] W:=by
   exact yeu
  have eU:l.length+0<=c:=by
   exact yev
  have hr:=run_append_room_src (P:=P) W st st ty E.t i0 hI.under aT g 0 l.length c xv 0 [] hs eU vM vM;refine⟨_,_,hr,?_,?_,?_,g,c,?_⟩
  ·rw[List.append_nil];exact hv
  ·exact⟨rfl,rfl,rfl,yR _,λ_ _ _=>rfl⟩
  ·exact⟨rfl,rfl,rfl,yR _,λ_ _=>rfl⟩
  ·rw[List.append_nil];rfl
 ·have dR:0<l2.length:=List.length_pos_iff.2 av
  obtain⟨b,off,cap,rfl,bY,lT,-⟩:=hx.some_ dR;have cC:∀j u,(l2.flatMap E.enc)[j]? =some u->W.cell? ((⟨b,off,none⟩:Addr).add j)=some u:=λj u hj=>by
   exact yji
  obtain⟨v',W',hr,aj,hg,-,-⟩:=run_append_own_at (P:=P) W base st ty E.t i0 _ E.s i0.bytes hI.under aT bM aW rfl lZ hE.pos _ l.length _ hv ⟨b,off,none⟩ l2.length cap (l2.flatMap E.enc) (a0w hE l2) cC (a4q hE l2) oK (Nat.le_trans (Nat.mul_le_mul (show l.length+l2.length<=100000 by omega) bF) jM) hb;have qn:∃g cap,v'= .slice (some ⟨g,0,none⟩) (l++l2).length cap:=by
   exact yje
  refine⟨v',W',hr,?_,hg,a1l hg hb (λk e=>(hv.lt k e).1),qn⟩;exact yju
theorem El.step_join (hE:E.Ok)(hI:E.In P st){o:Oper}{a:Act}{w:Wd}{K:Act->World->Prop}{Q:Exit->Act->World->Prop}(s x:Operand)
 (ho:o.op= .call { callee:= .builtin .append,args:= #[s,x],argTypes:= #[st,st] })
 (base:Nat) {v:Vu} (hs:a.eval s=v) (l:List α) (hv:w.ownsRow base E.t E.s v l.length (l.flatMap E.enc)) (bR:∃g c,v= .slice (some ⟨g,0,none⟩) l.length c) {xv:Vu} (l2:List α) (dH:a.eval x=xv) {n0:Nat} (hx:Lst E n0 w xv l2) (hf:Frm xv l2.length) (hl:l.length+l2.length<=100000) (hb:base<=w.heap.size)
 (h:∀v' w',w'.ownsRow base E.t E.s v' (l++l2).length ((l++l2).flatMap E.enc)->w.grownBy w' v.ownBlock->Below base w w'->(∃g cap,v'= .slice (some ⟨g,0,none⟩) (l++l2).length cap)->K (a.put o.dst v') w') :
 Oper.wp P o a w K Q:=by
 obtain⟨v',w',hr,h2,h3,h4,h5⟩:=El.append_join hE hI w base v xv l l2 o.type hv bR hx hf hl hb;unfold Oper.wp execOp;simp only[ho,resolve,invoke,builtin,Sem.run_bind,Sem.run_pure,Result.andThen_ok,List.map_toArray,List.map_cons,List.map_nil,hs,dH,hr];exact h v' w' h2 h3 h4 h5
theorem El.join (hE:E.Ok)(hI:E.In P st){ops:Array Oper}{rest:List Oper}{o:Oper}{a:Act}{w:Wd}{Q:Exit->Act->World->Prop}(dI:o.guard=none)(s x:Operand)
 (ho:o.op= .call { callee:= .builtin .append,args:= #[s,x],argTypes:= #[st,st] })
 (base:Nat) {v:Vu} (hs:a.eval s=v) (l:List α) (hv:w.ownsRow base E.t E.s v l.length (l.flatMap E.enc)) (bR:∃g c,v= .slice (some ⟨g,0,none⟩) l.length c) {xv:Vu} (l2:List α) (dH:a.eval x=xv) {n0:Nat} (hx:Lst E n0 w xv l2) (hf:Frm xv l2.length) (hl:l.length+l2.length<=100000) (hb:base<=w.heap.size)
 (h:∀v' w',w'.ownsRow base E.t E.s v' (l++l2).length ((l++l2).flatMap E.enc)->w.grownBy w' v.ownBlock->Below base w w'->(∃g cap,v'= .slice (some ⟨g,0,none⟩) (l++l2).length cap)->wpList P ops Q rest (a.put o.dst v') w') :
 wpList P ops Q (o::rest) a w :=
 wpList_plain dI λ_ hK=>El.step_join hE hI s x ho base hs l hv bR l2 dH hx hf hl hb λv' w' h1 h2 h3 h4=>hK _ _ (h v' w' h1 h2 h3 h4)
end
end
end Go.Proofs.YtfocdbjceedagaaGreatDoor
namespace Go
open Go.RowKit Go.Shelf
theorem World.setCell_id (w:Wd)(b o:Nat)(v:Vu)(h:w.cell? ⟨b,o,none⟩=some v):w.setCell ⟨b,o,none⟩ v=w:=by
 obtain⟨heap,tape,drawn,os,output⟩:=w;unfold World.setCell;simp only[World.mk.injEq,and_true];apply Array.ext_getElem?;intro i;simp only[Array.getElem?_modify];by_cases hb:b=i
 ·subst hb
  unfold World.cell? at h;simp only[if_true]
  cases hx:heap[b]? with
  |none=>rfl
  |some x =>
   rw[show({ heap:=heap,tape:=tape,drawn:=drawn,os:=os,output:=output }:World).heap[b]? =some x from hx]at h
   cases x <;> try rfl
   rename_i c t f;simp at h ⊢;have h':c[o]? =some v:=h;obtain⟨hl,hv⟩:=Array.getElem?_eq_some_iff.1 h';apply Array.ext_getElem?;intro j;rw[Array.getElem?_setIfInBounds];split
   ·rename_i e;subst e;exact h'.symm
   ·rfl
 ·simp[hb]
end Go
namespace Go.Proofs.YtfocdbjceedagaaGreatDoor
open Go.RowKit Go.Shelf
def Ints (n₀:Nat)(W:Wd)(sv:Vu)(xs:List Int):Prop :=
 ∃a cap,sv= .slice a xs.length cap/\∀j,(h:j<xs.length)->∃b off,a=some ⟨b,off,none⟩/\b<n₀/\fits xs[j]/\W.cell? ⟨b,off+j,none⟩=some (.int .i64 xs[j])
theorem Ints.below {n₀:Nat}{A B:Wd}(h:Below n₀ A B){sv:Vu}{xs:List Int}:Ints n₀ A sv xs->Ints n₀ B sv xs
 |⟨a,cap,e,f⟩=>⟨a,cap,e,λj hj=>by
  obtain⟨b,off,h1,h2,h3,h4⟩:=f j hj;exact⟨b,off,h1,h2,h3,(h.cell (p:=⟨b,off+j,none⟩) h2).trans h4⟩⟩
def c2m (xs:List Int)(j:Nat)(m:Int):Int:=xs.getD j 0 % m
theorem d4i (xs:List Int)(j:Nat){m:Int}(h:1<=m):0<=c2m xs j m/\c2m xs j m<m:=⟨Int.emod_nonneg _ oM,Int.emod_lt_of_pos _ oM⟩
theorem Below.of_grown {n₀:Nat}{W W':Wd}{row:Option Nat}(hg:W.grownBy W' row)(hn:n₀<=W.heap.size)(hr:∀r,row=some r->n₀<=r):Below n₀ W W' :=
 ⟨hg.os,hg.tape,hg.output,hg.size,λi hi=>hg.block i oM (λe=>by have:=hr i e.symm;omega)⟩
theorem b6p (W:Wd)(b i:Nat)(v:Vu)(p:Growth):W.grownBy ((W.setCell ⟨b,i,none⟩ v).growBy p) (some b):=by
 refine⟨rfl,rfl,rfl,by simp,λk hk av=> ?_⟩;rw[World.heap_growBy _ _ (by simpa using hk)];exact Below.heap_setCell _ _ _ _ (λe=>av (by rw[e]))
end Go.Proofs.YtfocdbjceedagaaGreatDoor
namespace Go.Proofs.YtfocdbjceedagaaGreatDoor
open Tryz
section
open Go.RowKit Go.Shelf
section
variable {H:Type}{enc:TypeId×Value->H}{P:Program}{W:Wd}{base:Nat}{sp:Nat->Bool}{hd:Bool}{t e:Td}{v:Vu}
theorem d4j (z:Int)(h:(Lit.int .i64 z).wf=true):fits z:=by
 exact ykv
instance : Inhabited Dt:=⟨⟨0,0,0,0⟩⟩
end
end
section
open Go Go.RowKit Go.Shelf Go.Lib
variable{b cap n0 off:Nat}{W:Wd}
abbrev dtE :El Dt:=⟨54,4,a2k⟩
theorem a4t:dtE.Ok:=⟨λ_=>rfl,jM,λx u hu=>by
 simp at hu;rcases hu with rfl|rfl|rfl|rfl <;> rfl⟩
theorem e0b:dtE.In prog 41:=El.in_of (z:= .agg #[.int .i64 0,.int .i64 0,.int .i64 0,.int .i64 0]) (s:=4) (bytes:=32) underlying41 zM rfl oM rfl
abbrev lfE :El Lf:=⟨68,3,λl=>[.int .i64 l.p,.int .i64 l.k,.int .i64 l.i]⟩
theorem a9w:lfE.Ok:=⟨λ_=>rfl,jM,λx u hu=>by
 simp at hu;rcases hu with rfl|rfl|rfl <;> rfl⟩
theorem d7z:lfE.In prog 43:=El.in_of (z:= .agg #[.int .i64 0,.int .i64 0,.int .i64 0]) (s:=3) (bytes:=24) underlying43 zM rfl oM rfl
abbrev keE :El Ke:=⟨82,3,λk=>[.int .i64 k.n,.int .i64 k.p,.string k.c]⟩
theorem b4r:keE.Ok:=⟨λ_=>rfl,jM,λx u hu=>by
 simp at hu;rcases hu with rfl|rfl|rfl <;> rfl⟩
theorem e2b:keE.In prog 42:=El.in_of (z:= .agg #[.int .i64 0,.int .i64 0,.string ⟨#[]⟩]) (s:=3) (bytes:=32) underlying42 zM rfl oM rfl
abbrev dtV (d:Dt):Value:= .agg #[.int .i64 d.x,.int .i64 d.y,.int .i64 d.k,.int .i64 d.i]
structure Sm (d:Dt):Prop where
 x0 : -1000000<=d.x
 x1:d.x<=1000000
 y0 : -1000000<=d.y
 y1:d.y<=1000000
instance : Inhabited Lf:=⟨⟨0,0,0⟩⟩
instance : Inhabited Ke:=⟨⟨0,0,⟨#[]⟩⟩⟩
def a7t (g:Int)(a b:Dt):Bool:=(decide (a.k≠b.k)||decide (a.i≠b.i))&&(decide (max (IntKind.i64.wrap (a.x-b.x)) (IntKind.i64.wrap (b.x-a.x))<g)&&decide (max (IntKind.i64.wrap (a.y-b.y)) (IntKind.i64.wrap (b.y-a.y))<g))
theorem b6q {g:Int}{a b:Dt}(ha:Sm a)(hb:Sm b):a7t g a b=a8v g a b:=by
 obtain⟨a0,a1,a2,a3⟩:=ha;obtain⟨b0,b1,b2,b3⟩:=hb;unfold a7t a8v;rw[a0j (x:=a.x-b.x) oM oM,a0j (x:=b.x-a.x) oM oM,a0j (x:=a.y-b.y) oM oM,a0j (x:=b.y-a.y) oM oM]
theorem b5i (a b:Dt)(g:Int)(w:Wd):
 Zc prog 88 #[dtV a,dtV b,.int .i64 g] w (.bool (a7t g a b)):=by
 obtain⟨ax,ay,ak,ai⟩:=a;obtain⟨bx,Cx,bk,bi⟩:=b;obtain⟨r,hr⟩:=zE (a7t g ⟨ax,ay,ak,ai⟩ ⟨bx,Cx,bk,bi⟩);rw[hr];unfold a7t at hr;simp only at hr;obtain⟨u1,e1⟩:=zE (IntKind.i64.wrap (ax-bx));obtain⟨u2,e2⟩:=zE (IntKind.i64.wrap (bx-ax));obtain⟨u3,e3⟩:=zE (IntKind.i64.wrap (ay-Cx));obtain⟨u4,e4⟩:=zE (IntKind.i64.wrap (Cx-ay));rw[e1,e2,e3,e4]at hr;obtain⟨tk,eS⟩:=zE ((!(ak==bk)));obtain⟨ti,OD⟩:=zE ((!(ai==bi)));obtain⟨tx,pQ⟩:=zE (decide (max u1 u2<g));obtain⟨ty,Ak⟩:=zE (decide (max u3 u4<g));have k1:decide (ak≠bk)=tk:=by rw[<-eS];exact Bool.eq_iff_iff.2 vM
 have k2:decide (ai≠bi)=ti:=by rw[<-OD];exact Bool.eq_iff_iff.2 vM
 rw[k1,k2,pQ,Ak]at hr;clear k1 k2;replace hr:=Lib.hid hr;go_enter func88,ntmps88;go_wp2_with fail
 all_goals (go_ret;refine⟨?_,zC⟩;have h2:=hr.out;clear hr;first|(simp_all [bne];done)|(cases tk <;> cases ti <;> simp_all [bne]))
def a8n (o:Option Nat):Int:=match o with|some k=>(k:Nat)|none => -1
theorem a5l {α:Type}(p:α->Bool)(d:α):∀(l:List α) (i:Nat),Lib.idxByFrom (λ_ y=>p y) d l i=match l.findIdx? p with|some k=>((i+k:Nat):Int)|none => -1
 |[],i=>rfl
 |y::l,i=>by
  unfold Lib.idxByFrom;rw[List.findIdx?_cons]
  cases h:p y with
  |true=>simp
  |false =>
   rw[a5l p d l (i+1)]
   cases l.findIdx? p with
   |none=>rfl
   |some k=>show((i+1+k:Nat):Int)=((i+(k+1):Nat):Int);congr 1;omega
theorem a8x {α:Type}(p:α->Bool)(d:α)(l:List α):Lib.idxBy (λ_ y=>p y) l d=a8n (l.findIdx? p):=by
 unfold Lib.idxBy;rw[a5l]
 cases l.findIdx? p <;> simp[a8n]
theorem c6s (a b:Dt)(g:Int)(A G:Nat)(w:Wd)(hA:Blk w A #[.int .i64 a.x,.int .i64 a.y,.int .i64 a.k,.int .i64 a.i] 54)(hG:w.cell? ⟨G,0,none⟩=some (.int .i64 g)):
 Zc prog 87 #[dtV b,.pointer (some ⟨A,0,none⟩),.pointer (some ⟨G,0,none⟩)] w (.bool (a7t g a b)):=by
 have h0:=b5i a b g;obtain⟨ax,ay,ak,ai⟩:=a;obtain⟨bx,Cx,bk,bi⟩:=b;obtain⟨r,hr⟩:=zE (a7t g ⟨ax,ay,ak,ai⟩ ⟨bx,Cx,bk,bi⟩);rw[hr]at h0 ⊢;clear hr;have c0:=hA.cell 0;have c1:=hA.cell 1;have c2:=hA.cell 2;have c3:=hA.cell 3;simp only at c0 c1 c2 c3;replace c0:w.cell? ⟨A,0,none⟩=some (.int .i64 ax):=c0;replace c1:w.cell? ⟨A,1,none⟩=some (.int .i64 ay):=c1;replace c2:w.cell? ⟨A,2,none⟩=some (.int .i64 ak):=c2;replace c3:w.cell? ⟨A,3,none⟩=some (.int .i64 ai):=c3;go_enter func87,ntmps87;go_wp2_with (go_at_call 88;refine(h0 _).mono ?_;rintro e w'⟨rfl,al⟩;obtain⟨p,rfl⟩:=a0c al;clear al);exact ybs
theorem a4a {α:Type}[Inhabited α]{E:El α}{l:List α}(h:Lst E n0 W (.slice (some ⟨b,off,none⟩) l.length cap) l)(hlen:∀x,(E.enc x).length=E.s):∀j,j<l.length->∀i v,(E.enc l[j]!)[i]? =some v->W.cell? ⟨b,off+j*E.s+i,none⟩=some v:=by
 intro j hj i v hv;obtain⟨b',fh,aI,e,-,-,hc⟩:=h.some_ oM;simp only[Value.slice.injEq,Option.some.injEq,Addr.mk.injEq]at e;obtain⟨⟨rfl,rfl,-⟩,-,-⟩:=e;have hi:=(List.getElem?_eq_some_iff.1 hv).1;rw[hlen]at hi;rw[getElem!_pos l j hj]at hv;rw[<-hv];exact hc j hj i hi
theorem d7e {α:Type}{E:El α}{l:List α}(h:Lst E n0 W (.slice (some ⟨b,off,none⟩) l.length cap) l)(hl:l≠[]):b<n0:=by
 obtain⟨b',fh,aI,e,-,hb,-⟩:=h.some_ (List.length_pos_iff.2 hl);simp only[Value.slice.injEq,Option.some.injEq,Addr.mk.injEq]at e;obtain⟨⟨rfl,rfl,-⟩,-,-⟩:=e;exact hb
theorem d4k (a:Option Addr)(c:Nat)(fv:Vu)(w:Wd):Zc prog 45 #[.slice a 0 c,fv] w (.int .i64 (-1)):=by
 go_enter func45,ntmps45;go_wp2_with fail;refine wp_loop_rounds 1 ?_;rw[rounds_succ];exact yeo
theorem d4l (a:Option Addr)(c:Nat)(fv:Vu)(w:Wd):Zc prog 152 #[.slice a 0 c,fv] w (.int .i64 (-1)):=by
 go_enter func152,ntmps152;go_wp2_with fail;refine wp_loop_rounds 1 ?_;rw[rounds_succ];exact yeo
theorem a6a (v:Vu)(l:List Dt)(w:Wd)(h:Lst dtE w.heap.size w v l)(hf:Frm v l.length)(p:Dt->Bool)(g:Nat)(lb:Array Value)(eg:∀args w,(callFunc g args).run prog w= .ok (.enter g args) w)(hp:PredBelow prog g lb (λx:Dt=> .agg (a2k x).toArray) p w):
 Zc prog 45 #[v,.func (.func g) #[] lb] w (.int .i64 (a8n (l.findIdx? p))):=by
 by_cases hl:l=[]
 ·subst hl
  obtain⟨a,c,rfl,-⟩:=h.form;exact d4k a c _ w
 ·rcases hf with rfl|⟨b,off,cap,rfl⟩
  ·exact yiq
  ·have hlen:=h.len
   refine(AnyQ.slices_IndexFunc Tryz.dotsIndex 4 isAgg54 sizeOf54 a2k (λ_=>rfl) p g lb eg b off l.length cap l w hp (yR _) oM (d7e h hl) (a4a h (λ_=>rfl))).mono ?_;exact yky
theorem c2n (v:Vu)(l:List Lf)(w:Wd)(h:Lst lfE w.heap.size w v l)(hf:Frm v l.length)(p:Lf->Bool)(g:Nat)(lb:Array Value)(eg:∀args w,(callFunc g args).run prog w= .ok (.enter g args) w)(hp:PredBelow prog g lb (λx:Lf=> .agg (lfE.enc x).toArray) p w):
 Zc prog 152 #[v,.func (.func g) #[] lb] w (.int .i64 (a8n (l.findIdx? p))):=by
 by_cases hl:l=[]
 ·subst hl
  obtain⟨a,c,rfl,-⟩:=h.form;exact d4l a c _ w
 ·rcases hf with rfl|⟨b,off,cap,rfl⟩
  ·exact yiq
  ·have hlen:=h.len
   refine(AnyQ.slices_IndexFunc Tryz.leftIndex 3 isAgg68 sizeOf68 lfE.enc (λ_=>rfl) p g lb eg b off l.length cap l w hp (yR _) oM (d7e h hl) (a4a h (λ_=>rfl))).mono ?_;exact yky
theorem d8a {α:Type}(p:α->Bool)(l:List α):decide (0<=a8n (l.findIdx? p))=l.any p:=by
 cases h:l.findIdx? p with
 |none =>
  rw[List.findIdx?_eq_none_iff]at h;rw[List.any_eq_false.2 (by simpa using h)];rfl
 |some k =>
  obtain⟨hk,h1,-⟩:=List.findIdx?_eq_some_iff_getElem.1 h;rw[List.any_eq_true.2 ⟨_,List.getElem_mem hk,h1⟩];show decide ((0:Int)<=(k:Nat))=true;exact decide_eq_true oM
theorem b4s (v:Vu)(l:List Dt)(w:Wd)(h:Lst dtE w.heap.size w v l)(hf:Frm v l.length)(p:Dt->Bool)(g:Nat)(lb:Array Value)(eg:∀args w,(callFunc g args).run prog w= .ok (.enter g args) w)(hp:PredBelow prog g lb (λx:Dt=> .agg (a2k x).toArray) p w):
 Zc prog 86 #[v,.func (.func g) #[] lb] w (.bool (l.any p)):=by
 have h0:=a6a v l w h hf p g lb eg hp;rw[<-d8a];obtain⟨r,hr⟩:=zE (a8n (l.findIdx? p));rw[hr]at h0 ⊢;clear hr hp h;obtain⟨a,n,c,rfl⟩:∃a n c,v= .slice a n c:=by rcases hf with rfl|⟨b,off,cap,rfl⟩ <;> exact⟨_,_,_,rfl⟩
 clear hf;go_enter func86,ntmps86;go_wp2_with (go_at_call 45;refine(h0).mono ?_;rintro e w'⟨rfl,al⟩;obtain⟨p,rfl⟩:=a0c al;clear al);exact ybs
theorem c6t (a:Dt)(g:Int)(O G:Nat)(ov:Vu)(o:List Dt)(n0:Nat)(w:Wd)(hO:w.cell? ⟨O,0,none⟩=some ov)(ho:Lst dtE w.heap.size w ov o)(hf:Frm ov o.length)(hG:w.cell? ⟨G,0,none⟩=some (.int .i64 g)):
 Zc prog 85 #[dtV a,.pointer (some ⟨O,0,none⟩),.pointer (some ⟨G,0,none⟩)] w (.bool (o.any (a7t g a))):=by
 obtain⟨oa,oc,rfl,-⟩:=ho.form;obtain⟨ax,ay,ak,ai⟩:=a;have aw:Below w.heap.size w (w.alloc (.cells #[.int .i64 ax,.int .i64 ay,.int .i64 ak,.int .i64 ai] 54)):=(zR _ _).alloc (yR _) _;have h0:=b4s (.slice oa o.length oc) o (w.alloc (.cells #[.int .i64 ax,.int .i64 ay,.int .i64 ak,.int .i64 ai] 54)) (ho.up aw) hf (a7t g ⟨ax,ay,ak,ai⟩) 87 #[.pointer (some ⟨w.heap.size,0,none⟩),.pointer (some ⟨G,0,none⟩)] (enters_of func87 zM rfl)
  (λW x hb=>(c6s ⟨ax,ay,ak,ai⟩ x g w.heap.size G W ((Blk.new w #[.int .i64 ax,.int .i64 ay,.int .i64 ak,.int .i64 ai] 54).below hb vM) ((hb.cell (p:=⟨G,0,none⟩) (by have:=World.block_lt_of_cell? _ _ hG;simp only[World.size_alloc];simp only at this;omega)).trans ((aw.cell (p:=⟨G,0,none⟩) (World.block_lt_of_cell? _ _ hG)).trans hG))).mono λ_ _ ⟨he,h⟩=>⟨he,hb.trans (h.mono hb.size)⟩)
 obtain⟨r,hr⟩:=zE (o.any (a7t g ⟨ax,ay,ak,ai⟩));rw[hr]at h0 ⊢;clear hr;go_enter func85,ntmps85;go_wp2_with (go_at_call 86;refine(h0).mono ?_;rintro e w'⟨rfl,al⟩;obtain⟨p,rfl⟩:=a0c al;clear al);exact ybs
theorem a1n {P:Program}{fn:Func}{p u:Tmp}{ty:Td}(h:fn.results= #[.cell p ty,.tmp u])(tmps:Array Value)(w:Wd)(g:Nat)(t:Td)(cs:Array Value)(fr:Nat×Nat)(d:TypeDesc)
 (hp:tmps.getD p undef= .pointer (some ⟨g,0,none⟩)) (hg:w.heap[g]? =some (.cells cs t fr)) (hu:P.underlying ty=some d) (hd:(match d with | .struct _ | .array _ _=>true|_=>false)=true) (hi:(P.info? ty).map (·.size)=some cs.size) :
 (results fn tmps).run P w= .ok (.tuple #[.agg cs,tmps.getD u undef]) w:=by
 rw[results_cell_tmp h,hp];simp[asAddr,run_loadVar_row w g t ty cs fr d hg hu hd hi,Result.andThen]
def c5i (g:Int)(l o:List Dt):Option Dt:=l.find? λa=>o.any (a7t g a)
def c9w (o:Option Dt):Value:=match o with|some d=> .tuple #[dtV d,.bool true]|none=> .tuple #[dtV ⟨0,0,0,0⟩,.bool false]
theorem c5j {α:Type}(p:α->Bool)(l:List α):(l.findIdx? p=none/\l.find? p=none)\/∃k,∃h:k<l.length,l.findIdx? p=some k/\l.find? p=some l[k]:=by
 cases h:l.findIdx? p with
 |none =>
  left;rw[List.findIdx?_eq_none_iff]at h;exact⟨rfl,List.find?_eq_none.2 (by simpa using h)⟩
 |some k =>
  right;obtain⟨hk,h1,h2⟩:=List.findIdx?_eq_some_iff_getElem.1 h;refine⟨k,hk,rfl,?_⟩;rw[List.find?_eq_some_iff_getElem];exact⟨h1,k,hk,rfl,λj hj=>by simpa using h2 j hj⟩
theorem b9f (g:Int)(lv ov:Vu)(l o:List Dt)(w:Wd)(hl:Lst dtE w.heap.size w lv l)(cZ:Frm lv l.length)(ho:Lst dtE w.heap.size w ov o)(cN:Frm ov o.length):
 Zc prog 36 #[lv,ov,.int .i64 g] w (c9w (c5i g l o)):=by
 obtain⟨oa,oc,rfl,-⟩:=ho.form;obtain⟨la,lc,rfl,-⟩:=hl.form;obtain⟨W,hW⟩:=zE (((w.alloc (.cells #[.slice oa o.length oc] 41)).alloc (.cells #[.int .i64 g] 3)).alloc (.cells #[.int .i64 0,.int .i64 0,.int .i64 0,.int .i64 0] 54));have hb:Below w.heap.size w W:=by rw[<-hW];exact zC
 have kO:Blk W w.heap.size #[.slice oa o.length oc] 41:=by rw[<-hW];exact((Blk.new _ _ _).alloc _).alloc _
 have kG:Blk W (w.heap.size+1) #[.int .i64 g] 3:=by rw[<-hW];have:=(Blk.new (w.alloc (.cells #[.slice oa o.length oc] 41)) #[.int .i64 g] 3).alloc (.cells #[.int .i64 0,.int .i64 0,.int .i64 0,.int .i64 0] 54);rwa [World.size_alloc]at this
 have h0:=a6a (.slice la l.length lc) l W (hl.up hb) cZ (λa=>o.any (a7t g a)) 85 #[.pointer (some ⟨w.heap.size,0,none⟩),.pointer (some ⟨w.heap.size+1,0,none⟩)] (enters_of func85 zM rfl)
  (λX x hx=>(c6t x g w.heap.size (w.heap.size+1) (.slice oa o.length oc) o 0 X ((kO.below hx kO.lt).cell 0) ((ho.up hb).up hx) cN ((kG.below hx kG.lt).cell 0)).mono λ_ _ ⟨he,h⟩=>⟨he,hx.trans (h.mono hx.size)⟩)
 have iX:=hl.up hb;unfold c5i;rcases c5j (λa=>o.any (a7t g a)) l with⟨h1,h2⟩|⟨k,hk,h1,h2⟩
 ·rw[h1]at h0
  rw[h2];replace h0:Calls _ _ _ _ λe w'=>e= .returned (.int .i64 (-1))/\Below W.heap.size W w':=h0
  rw[<-hW]at h0;clear h1 h2 hW hb kO kG iX;go_enter func36,ntmps36;go_wp2_with (go_at_call 45;refine(h0).mono ?_;rintro e w'⟨rfl,al⟩;obtain⟨p,rfl⟩:=a0c al;clear al);have k2:Blk ((((w.alloc (.cells #[.slice oa o.length oc] 41)).alloc (.cells #[.int .i64 g] 3)).alloc (.cells #[.int .i64 0,.int .i64 0,.int .i64 0,.int .i64 0] 54)).growBy p) (w.heap.size+1+1) #[.int .i64 0,.int .i64 0,.int .i64 0,.int .i64 0] 54:=by have:=(Blk.new ((w.alloc (.cells #[.slice oa o.length oc] 41)).alloc (.cells #[.int .i64 g] 3)) #[.int .i64 0,.int .i64 0,.int .i64 0,.int .i64 0] 54).grow p;simp only[World.size_alloc]at this;exact this
  exact bodyPost_ret (a1n qM _ _ _ 54 _ (0,0) _ qM k2 underlying54 qM zM) rfl ⟨rfl,zC⟩
 ·rw[h1]at h0
  rw[h2];replace h0:Calls _ _ _ _ λe w'=>e= .returned (.int .i64 (k:Nat))/\Below W.heap.size W w':=h0
  obtain⟨b,off,cap,hv,-,sj,hc⟩:=iX.some_ oM;simp only[Value.slice.injEq,true_and]at hv;obtain⟨rfl,rfl⟩:=hv;obtain⟨d,hd⟩:=zE (l[k]);have aB:=hc k hk;rw[hd]at aB;rw[hd];obtain⟨dx,dy,dk,di⟩:=d;have c0:W.cell? ⟨b,off+k*4,none⟩=some (.int .i64 dx):=aB 0 (show 0<4 by decide);have c1:W.cell? ⟨b,off+k*4+1,none⟩=some (.int .i64 dy):=aB 1 (show 1<4 by decide);have c2:W.cell? ⟨b,off+k*4+2,none⟩=some (.int .i64 dk):=aB 2 (show 2<4 by decide);have c3:W.cell? ⟨b,off+k*4+3,none⟩=some (.int .i64 di):=aB 3 (show 3<4 by decide);have kt:(k:Int)<(l.length:Int):=oM;have iB:¬(k:Int)<0:=oM;have k2:Blk W (w.heap.size+1+1) #[.int .i64 0,.int .i64 0,.int .i64 0,.int .i64 0] 54:=by rw[<-hW];have:=Blk.new ((w.alloc (.cells #[.slice oa o.length oc] 41)).alloc (.cells #[.int .i64 g] 3)) #[.int .i64 0,.int .i64 0,.int .i64 0,.int .i64 0] 54;simp only[World.size_alloc]at this;exact this
  have x0:=k2.cell 0;have x1:=k2.cell 1;have x2:=k2.cell 2;have x3:=k2.cell 3;have z0:=k2.frozen 0;have z1:=k2.frozen 1;have z2:=k2.frozen 2;have z3:=k2.frozen 3;replace x0:W.cell? ⟨w.heap.size+1+1,0,none⟩=some (.int .i64 0):=x0;replace x1:W.cell? ⟨w.heap.size+1+1,1,none⟩=some (.int .i64 0):=x1;replace x2:W.cell? ⟨w.heap.size+1+1,2,none⟩=some (.int .i64 0):=x2;replace x3:W.cell? ⟨w.heap.size+1+1,3,none⟩=some (.int .i64 0):=x3;have kF:=(((k2.set 0 (.int .i64 dx)).set 1 (.int .i64 dy)).set 2 (.int .i64 dk)).set 3 (.int .i64 di);clear h1 h2 kO kG iX aB hc hl ho hd;go_enter func36,ntmps36;go_upto_region 1 with fail;clear hW;go_wp2_with (go_at_call 45;refine(h0).mono ?_;rintro e w'⟨rfl,al⟩;obtain⟨p,rfl⟩:=a0c al;clear al);have bu:=hb.size;exact bodyPost_ret (a1n qM _ _ _ 54 _ (0,0) _ qM (kF.grow p) underlying54 qM zM) rfl ⟨rfl,zC⟩
end
section
open Go Go.RowKit Go.Shelf
variable{s:Bw}
theorem b9g (s:Bw)(pos:Nat)(h:pos<s.size)(ha:¬(s[pos]'h).toNat<128):128<=(Utf8.decode s pos).1:=by
 have e:s.get! (pos+0)=s[pos]'h:=by
  show s.get! pos=_;simp[ByteArray.get!,getElem!_pos,h];rfl
 unfold Utf8.decode;simp only[e];rw[if_neg ha];have hr:128<=Utf8.runeError:=jM;repeat' split
 all_goals first|exact hr|(simp only[ge_iff_le,decide_eq_true_eq,Bool.and_eq_true]at *;omega)
theorem b4t {P:Program}(w:Wd)(s:Bw)(pos:Nat)(ty:Td)(h:pos<s.size):
 (Instr.next (.pointer (some ⟨w.heap.size,0,none⟩)) true ty).run P (w.iter s pos) =
  .ok (.tuple #[.bool true,.int .i64 pos,.int .i32 (Utf8.decode s pos).1]) (w.iter s (pos+(Utf8.decode s pos).2)):=by
 simp only[Instr.next,getObj,setObj,Sem.run_bind,Sem.run,World.iter_heap,Result.andThen,h,if_true,World.iter_set];simp[goInt,Sem.run,World.iter_heap,World.iter_set]
def okB (c:UInt8):Bool:=decide (32<=c.toNat)&&decide (c.toNat<=126)&&decide (c.toNat≠34)
def a6h (s:Bw):Bool:=s.data.toList.all okB
theorem b2u (h:a6h s=true)(i:Nat)(hi:i<s.size):okB (s[i]'hi)=true:=by
 unfold a6h at h;rw[List.all_eq_true]at h;exact h _ (Array.mem_toList_iff.2 (Array.getElem_mem hi))
theorem b9h (h:∀i (hi:i<s.size),okB (s[i]'hi)=true):a6h s=true:=by
 unfold a6h;rw[List.all_eq_true];intro c hc;obtain⟨i,hi,rfl⟩:=List.getElem_of_mem hc;exact h i (by simpa using hi)
theorem b2v (i:Nat)(hi:i<s.size)(h:okB (s[i]'hi)=false):a6h s=false:=by
 cases hr:a6h s with
 |false=>rfl
 |true=>rw[b2u hr i hi]at h;cases h
theorem b9i (s:Bw)(hl:s.size<=1000000)(w:Wd):Zc prog 113 #[.string s] w (.bool (a6h s)):=by
 obtain⟨r,hr⟩:=zE (a6h s);rw[hr];go_enter func113,ntmps113;go_wp2_with fail;go_loopw [7] (λ_ W=>∃n:Nat,n<=s.size/\W=w.iter s n/\∀i (hi:i<n) (hs:i<s.size),okB (s[i]'hs)=true) (λ_ W=>b1s w.heap.size s W)
 case atStart=>exact⟨0,Nat.zero_le _,rfl,λi hi=>absurd hi (Nat.not_lt_zero _)⟩
 case round =>
  obtain⟨n,hn,rfl,a7⟩:=hrel;have Cy:=Lib.hid a7;clear a7;by_cases ag:n<s.size
  ·by_cases ha:(s[n]'ag).toNat<128
   ·have lV:∀ty,(Instr.next (.pointer (some ⟨w.heap.size,0,none⟩)) true ty).run prog (w.iter s n)= .ok (.tuple #[.bool true,.int .i64 n,.int .i32 (s[n]'ag).toNat]) (w.iter s (n+1)):=λty=>run_next_ascii w s n ty ag ha
    obtain⟨u,hu⟩:=zE (s[n]'ag);obtain⟨c,hc⟩:=zE u.toNat;rw[hu,hc]at lV;rw[hu,hc]at ha;by_cases hk:okB u=true
    ·have eD:=hk
     unfold okB at eD;rw[hc]at eD;simp only[Bool.and_eq_true,decide_eq_true_eq]at eD;obtain⟨⟨q0,q1⟩,q2⟩:=eD;have k0:¬(c:Int)<32:=oM;have k1:¬(126:Int)<c:=oM;have k2:¬(c:Int)=34:=oM;have aq:Hid (∀i (hi:i<n+1) (hs:i<s.size),okB (s[i]'hs)=true):=λi hi hs=>by
      by_cases h9:i=n
      ·subst h9;rw[hu];exact hk
      ·exact Cy.out i oM hs
     clear hk hc hu q0 q1 q2;go_wp2_with fail;go_roundw
     case rel=>exact⟨n+1,oM,rfl,aq.out⟩
     case measure=>rw[a5z,a5z];omega
    ·have aK:=b2v n ag (by rw[hu];simpa using hk)
     rw[hr]at aK;subst aK;have eD:c<32\/126<c\/c=34:=by
      unfold okB at hk;rw[hc]at hk;simp only[Bool.and_eq_true,decide_eq_true_eq,not_and]at hk;omega
     clear hk hc hu hr;rcases eD with h9|h9|h9
     ·have k0:(c:Int)<32:=oM
      exact ydq
     ·have k0:¬(c:Int)<32:=oM
      have k1:(126:Int)<c:=oM;exact ydq
     ·subst h9
      exact ydq
   ·have lV:∀ty,(Instr.next (.pointer (some ⟨w.heap.size,0,none⟩)) true ty).run prog (w.iter s n)= .ok (.tuple #[.bool true,.int .i64 n,.int .i32 (Utf8.decode s n).1]) (w.iter s (n+(Utf8.decode s n).2)):=λty=>b4t w s n ty ag
    have hd:=b9g s n ag ha;have aK:=b2v n ag (by unfold okB;rw[Bool.and_eq_false_iff,Bool.and_eq_false_iff];exact .inl (.inr (decide_eq_false oM)));rw[hr]at aK;subst aK;obtain⟨c,hc⟩:=zE ((Utf8.decode s n).1);rw[hc]at lV hd;have k0:¬(c:Int)<32:=oM;have k1:(126:Int)<c:=oM;clear hc hr ha hd;exact ydq
  ·obtain rfl:n=s.size:=oM
   have lV:∀ty,(Instr.next (.pointer (some ⟨w.heap.size,0,none⟩)) true ty).run prog (w.iter s s.size)= .ok (.tuple #[.bool false]) (w.iter s s.size):=λty=>run_next_end w s s.size ty oM
   have aF:=b9h (s:=s) λi hi=>Cy.out i hi hi
   rw[hr]at aF;subst aF;clear hr;exact ydq
end
end Go.Proofs.YtfocdbjceedagaaGreatDoor
