/-
  Parts.
-/
import Derived.Test.YtfocdbjceedagaaGreatDoorCar
set_option linter.unusedVariables false
set_option linter.unusedSimpArgs false
set_option maxHeartbeats 4000000
set_option maxRecDepth 100000
namespace Go.Proofs.YtfocdbjceedagaaGreatDoor
open Tryz
section
open Go Go.RowKit Go.Shelf Go.Lib Go.Sort
variable{l:List Dt}{N blk i j:Nat}{W w:Wd}
theorem c0n (w:Wd)(b o n c:Nat)(ty:Td)(hn:0<n)(hc:∀j,j<n*4->(w.cell? ⟨b,o+j,none⟩).isSome=true)(hf:∀j,j<n*4->w.frozen? ⟨b,o+j,none⟩=false):
 ∃vs,vs.length=n*4/\(Builtin.clear_ #[41] ty #[.slice (some ⟨b,o,none⟩) n c]).run prog w= .ok (.tuple #[]) (w.setCells b o vs):=by
 obtain⟨zs,kj⟩:=zE ((Builtin.zeroCells (Value.agg #[.int .i64 0,.int .i64 0,.int .i64 0,.int .i64 0]).cells n).toList);have hlen:zs.length=n*4:=by rw[<-kj,Array.length_toList,size_zeroCells];rfl
 have h1:∀v∈zs,v.oneCell'=true:=by
  intro v hv;rw[<-kj]at hv;simp only[Builtin.zeroCells,Array.toList_map,List.mem_map]at hv;obtain⟨i,-,rfl⟩:=hv;have:i % 4<4:=Nat.mod_lt _ jM;show Value.oneCell' ((#[Value.int .i64 0,.int .i64 0,.int .i64 0,.int .i64 0]:Array Value)[i % 4]!)=true;obtain⟨k,hk⟩:=zE (i % 4);rw[hk]at this ⊢;match k,this with
  |0,_=>rfl
  |1,_=>rfl
  |2,_=>rfl
  |3,_=>rfl
 have au:=run_storeCells_cells (P:=prog) b o zs 0 w (by simpa[hlen]using hc) (by simpa[hlen]using hf) h1;simp only[Nat.add_zero]at au;obtain⟨m,rfl⟩:∃m,n=m+1:=⟨n-1,oM⟩;refine⟨zs,hlen,?_⟩;have hu:=run_underlying (P:=prog) underlying41;simp only[Builtin.clear_];simp[hu,zeroValue54,kj,au]
theorem c7z (W:Wd)(blk o:Nat)(x y k i:Int):W.setCells blk o (dtE.enc ⟨x,y,k,i⟩)=((((W.setCell ⟨blk,o,none⟩ (.int .i64 x)).setCell ⟨blk,o+1,none⟩ (.int .i64 y)).setCell ⟨blk,o+2,none⟩ (.int .i64 k)).setCell ⟨blk,o+3,none⟩ (.int .i64 i)):=by
 simp only[World.setCells,Nat.add_assoc,Nat.reduceAdd]
theorem DeD.at_ {q:Dt->Bool}(h:DeD q w blk N l i j W)(hj:j<l.length){x:Dt}(hx:l[j]? =some x):W.cell? ⟨blk,0+j*4,none⟩=some (.int .i64 x.x)/\W.cell? ⟨blk,0+j*4+1,none⟩=some (.int .i64 x.y)/\W.cell? ⟨blk,0+j*4+2,none⟩=some (.int .i64 x.k)/\W.cell? ⟨blk,0+j*4+3,none⟩=some (.int .i64 x.i):=by
 obtain⟨⟨d,h1,h2,h3⟩,h4,h5⟩:=h;have h6:d.toList[j]? =l[j]? :=by
  have:=congrArg (λl=>l[0]?) h3;simpa using this
 rw[hx]at h6;have mA:j<d.size:=by rw[h1.sz];exact hj
 have h8:d[j]! =x:=by
  rw[getElem!_pos d j mA];simpa[mA]using h6
 subst h8;exact⟨(HoldsK.cell h1.row mA (c:=0) oM).1,(HoldsK.cell h1.row mA (c:=1) oM).1,(HoldsK.cell h1.row mA (c:=2) oM).1,(HoldsK.cell h1.row mA (c:=3) oM).1⟩
theorem DeD.fr {q:Dt->Bool}(h:DeD q w blk N l i j W){k:Nat}(hk:k<l.length):W.frozen? ⟨blk,0+k*4,none⟩=false/\W.frozen? ⟨blk,0+k*4+1,none⟩=false/\W.frozen? ⟨blk,0+k*4+2,none⟩=false/\W.frozen? ⟨blk,0+k*4+3,none⟩=false:=by
 obtain⟨⟨d,h1,h2,h3⟩,h4,h5⟩:=h;have mA:k<d.size:=by rw[h1.sz];exact hk
 exact⟨(HoldsK.cell h1.row mA (c:=0) oM).2,(HoldsK.cell h1.row mA (c:=1) oM).2,(HoldsK.cell h1.row mA (c:=2) oM).2,(HoldsK.cell h1.row mA (c:=3) oM).2⟩
theorem d1k (q:Dt->Bool)(l:List Dt):(l.findIdx? q=none/\l.filter (λx=> !q x)=l)\/∃i:Nat,l.findIdx? q=some i/\i<l.length/\(l.take (i+1)).filter (λx=> !q x)=l.take i:=by
 cases h:l.findIdx? q with
 |none =>
  left;rw[List.findIdx?_eq_none_iff]at h;exact⟨rfl,List.filter_eq_self.2 λx hx=>by simp[h x hx]⟩
 |some i =>
  right;obtain⟨hi,h1,h2⟩:=List.findIdx?_eq_some_iff_getElem.1 h;refine⟨i,rfl,hi,?_⟩;rw[List.take_add_one,List.getElem?_eq_getElem hi,List.filter_append];have e1:(l.take i).filter (λx=> !q x)=l.take i:=List.filter_eq_self.2 λx hx=>by
   obtain⟨j,hj⟩:=List.mem_iff_getElem?.1 hx;rw[List.getElem?_take]at hj;split at hj
   ·obtain⟨DH,rfl⟩:=List.getElem?_eq_some_iff.1 hj
    simp[h2 j gM]
   ·cases hj
  rw[e1];simp[h1]
theorem DeD.gr {q:Dt->Bool}(h:DeD q w blk N l i j W):w.grownBy W (some blk):=by
 obtain⟨⟨d,h1,h2,h3⟩,h4,h5⟩:=h;exact h1.gr
theorem c0o (base:Nat)(v:Vu)(l:List Dt)(B:Nat)(p k i0:Int)(w:Wd)(hl:l.length<=100000)(oN:Blk w B #[.int .i64 p,.int .i64 k,.int .i64 i0] 68)(ae:w.ownsRow base 54 4 v l.length (l.flatMap dtE.enc)):
 Calls prog 108 #[v,.func (.func 110) #[] #[.pointer (some ⟨B,0,none⟩)]] w λe w'=>∃u,e= .returned u/\w'.ownsRow base 54 4 u (l.filter (λx=> !a6d k i0 x)).length ((l.filter (λx=> !a6d k i0 x)).flatMap dtE.enc)/\w.grownBy w' v.ownBlock/\u.ownBlock=v.ownBlock:=by
 rcases ae.2 with⟨rfl,h0⟩|⟨g,cap,cur,rfl,hb,hg,h1,h2,h3,h4⟩
 ·obtain rfl:=List.eq_nil_of_length_eq_zero h0
  have bB:=Lib.hid ae;have c0:Calls prog 45 #[.slice none 0 0,.func (.func 110) #[] #[.pointer (some ⟨B,0,none⟩)]] w λe w'=>e= .returned (.int .i64 (-1))/\w=w':=by
   clear ae h0 bB;go_enter func45,ntmps45;exact yho
  clear ae h0;go_enter func108,ntmps108;go_wp2_with (go_at_call 45;refine c0.mono ?_;rintro e w1⟨rfl,rfl⟩);go_ret;exact⟨_,rfl,bB.out,⟨rfl,rfl,rfl,yR _,λ_ _ _=>rfl⟩,rfl⟩
 ·obtain⟨hS,UH⟩:=c7y ae
  have FY:g<w.heap.size:=hS.rb.lt;have c1:=a6a (.slice (some ⟨g,0,none⟩) l.length cap) l w (a0d a4t ae oM) (a1u ae) (a6d k i0) 110 #[.pointer (some ⟨B,0,none⟩)] (enters_of func110 zM rfl) (λX d hx=>(b1j d B p k i0 X (oN.below hx oN.lt)).mono λ_ _ ⟨he,h⟩=>⟨he,hx.trans (h.mono hx.size)⟩);have QQ:g≠B:=λe=>a0n ae oN jM (by rw[<-e];rfl)
  rcases d1k (a6d k i0) l with⟨hi,jC⟩|⟨i,hi,rk,uj⟩
  ·rw[hi]at c1
   replace c1:Calls _ _ _ _ λe w'=>e= .returned (.int .i64 (-1))/\Below w.heap.size w w':=c1
   rw[jC];have bB:=Lib.hid ae;clear hS ae hg jC hi h3 h4;go_enter func108,ntmps108;go_wp2_with (go_at_call 45;refine c1.mono ?_;rintro e w1⟨rfl,aw⟩);go_ret;exact⟨_,rfl,a0r bB.out aw,⟨aw.os,aw.tape,aw.output,aw.size,λk hk _=>aw.block k hk⟩,rfl⟩
  ·rw[hi]at c1
   replace c1:Calls _ _ _ _ λe w'=>e= .returned (.int .i64 (i:Nat))/\Below w.heap.size w w':=c1
   have AF:((i:Int) == -1)=false:=by simp
   have sJ:DeD (a6d k i0) w g (cap*4) l i (i+1) w:=⟨⟨l.toArray,hS,by simpa using uj.symm,by simp⟩,oM,oM⟩;replace sJ:=Lib.hid sJ;clear hS ae hg h3 h4 uj hi;have mixed:prog.follows .mixedOrders=true:=by kernel_rfl
   go_enter func108,ntmps108;go_wp2_with (go_at_call 45;refine c1.mono ?_;rintro e w1⟨rfl,aw⟩);have Ho:=Lib.hid (sJ.out.below aw);clear sJ aw c1;go_loopw [5,6] (λvi vj wr=>∃i j:Nat,vi= .int .i64 (i:Nat)/\vj= .int .i64 (j:Nat)/\Hid (DeD (a6d k i0) w g (cap*4) l i j wr)) (λ_ vj _=>l.length-(intOf vj).toNat)
   case atStart=>exact⟨i,i+1,rfl,by go_num,Ho⟩
   case round =>
    clear Ho rk AF;obtain⟨i,j,rfl,rfl,HD⟩:=hrel;have ee:=HD.out.ij;have vm:=HD.out.jn;by_cases ag:j<l.length
    ·have aA:(j:Int)<(l.length:Int):=oM
     have QR:(i:Int)<(l.length:Int):=oM;obtain⟨x,hx⟩:∃x,l[j]? =some x:=⟨_,List.getElem?_eq_getElem ag⟩;obtain⟨a0,a1,a2,a3⟩:=HD.out.at_ ag hx;obtain⟨q,hq⟩:=zE (a6d k i0 x);have fF:∀W,w.grownBy W (some g)->Zc prog 110 #[dtV x,.pointer (some ⟨B,0,none⟩)] W (.bool q):=λW hg=>by rw[<-hq];exact b1j x B p k i0 W (oN.kept hg λe=>by cases e;exact QQ rfl)
     have HX:Hid (l[j]? =some x/\a6d k i0 x=q):=⟨hx,hq⟩;clear hx hq;obtain⟨i1,x1,y1,d1⟩:=x;simp only[Nat.zero_add]at a0 a1 a2 a3;go_upto_region 8 with fail;have kX:=Blk.new wr #[.int .i64 i1,.int .i64 x1,.int .i64 y1,.int .i64 d1] 54;have yE:=HD.out.below (show Below wr.heap.size wr (wr.alloc (.cells #[.int .i64 i1,.int .i64 x1,.int .i64 y1,.int .i64 d1] 54))from(zR _ _).alloc (yR _) _);have QS:=HD.out.lt;obtain⟨BX,yF⟩:=zE wr.heap.size;obtain⟨W1,aH⟩:=zE (wr.alloc (.cells #[.int .i64 i1,.int .i64 x1,.int .i64 y1,.int .i64 d1] 54));rw[aH]at kX yE;rw[aH];rw[yF]at kX QS;rw[yF];have DO:=yE.gr;clear aH yF HD a0 a1 a2 a3;replace yE:=Lib.hid yE;have x0:W1.cell? ⟨BX,0,none⟩=some (.int .i64 i1):=kX.cell 0;have Jf:W1.cell? ⟨BX,1,none⟩=some (.int .i64 x1):=kX.cell 1;have x2:W1.cell? ⟨BX,2,none⟩=some (.int .i64 y1):=kX.cell 2;have x3:W1.cell? ⟨BX,3,none⟩=some (.int .i64 d1):=kX.cell 3
     cases q
     ·go_upto_region 9 with(first|(go_at_call 110;(with_reducible refine(fF _ DO).mono ?_);rintro e w2⟨rfl,az⟩;have DQ:=kX.below az kX.lt;have AJ:=Lib.hid (yE.out.below az);clear az x0 Jf x2 x3)|fail)
      have x0:w2.cell? ⟨BX,0,none⟩=some (.int .i64 i1):=DQ.cell 0;have Jf:w2.cell? ⟨BX,1,none⟩=some (.int .i64 x1):=DQ.cell 1;have x2:w2.cell? ⟨BX,2,none⟩=some (.int .i64 y1):=DQ.cell 2;have x3:w2.cell? ⟨BX,3,none⟩=some (.int .i64 d1):=DQ.cell 3;obtain⟨f0,f1,f2,f3⟩:=AJ.out.fr (k:=i) oM;obtain⟨c1,c2⟩:=AJ.out.cell;have s0:=c1 (i*4) oM;have s1:=c1 (i*4+1) oM;have s2:=c1 (i*4+2) oM;have s3:=c1 (i*4+3) oM;have hK:=AJ.out.keep ag HX.out.1 HX.out.2;rw[c7z]at hK;simp only[Nat.zero_add]at f0 f1 f2 f3 hK;obtain⟨v0,s0⟩:=Option.isSome_iff_exists.1 s0;obtain⟨v1,s1⟩:=Option.isSome_iff_exists.1 s1;obtain⟨v2,s2⟩:=Option.isSome_iff_exists.1 s2;obtain⟨v3,s3⟩:=Option.isSome_iff_exists.1 s3;have FT:IntKind.i64.wrap ((i:Int)+1)=(i:Int)+1:=a0j oM oM;clear c1 c2 AJ yE kX DQ fF;replace hK:=Lib.hid hK;go_wp2_with fail;go_roundw
      case rel=>exact⟨i+1,j+1,by go_num,by go_num,hK⟩
      case measure=>exact yaz
     ·go_wp2_with (first|(go_at_call 110;(with_reducible refine(fF _ DO).mono ?_);rintro e w2⟨rfl,az⟩;have AJ:=Lib.hid (yE.out.below az);clear az x0 Jf x2 x3)|fail)
      go_roundw
      case rel=>exact⟨i,j+1,by go_num,by go_num,Lib.hid (AJ.out.skip ag HX.out.1 HX.out.2)⟩
      case measure=>exact yaz
    ·obtain rfl:j=l.length:=oM
     have iF:¬(l.length:Int)<(l.length:Int):=oM;obtain⟨c1,c2⟩:=HD.out.cell;have QT:(i:Int)<=(l.length:Int):=oM;obtain⟨vs,QU,uk⟩:=c0n wr g (i*4) (l.length-i) (cap-i) 0 oM (λt ht=>c1 _ oM) (λt ht=>c2 _ oM);clear c1 c2;have UI:(i:Int)<=(cap:Int):=oM;have dC:=Lib.hid (HD.out.done hb h1 h2 vs QU);go_wp2_with fail;go_ret;obtain⟨-,e2,e3⟩:=dC.out;rw[Nat.zero_add]at e2 e3;exact⟨_,rfl,e2,e3,rfl⟩
end
section
open Go Go.RowKit Go.Shelf Go.Lib Go.Maps
def c4a (Bm:Nat)(W:Wd)(k:Nat):Prop:=(∃o,W.heap[k]? =some o/\a7a o=false)/\k=Bm
theorem c4b {Bm:Nat}{W:Wd}{k:Nat}(h:c4a Bm W k):k<W.heap.size:=by
 exact yik
theorem b7p (Bm:Nat)(W:Wd)(l:Nat)(o:Obj)(h:W.heap[l]? =some o)(ho:a7a o=true):¬c4a Bm W l:=by
 exact yig
theorem d5v (Bm:Nat)(W:Wd)(l k:Nat)(o o':Obj)(h:W.heap[l]? =some o)(ho:a7a o=true)(lW:a7a o'=true):c4a Bm (W.putObj l o') k↔c4a Bm W k:=by
 have ag:l<W.heap.size:=(Array.getElem?_eq_some_iff.1 h).1;have pC:(W.putObj l o').heap[l]? =some o':=World.putObj_heap_same ag;by_cases hk:k=l
 ·subst hk
  exact⟨λhc=>absurd hc (b7p Bm _ k o' pC lW),λhc=>absurd hc (b7p Bm W k o h ho)⟩
 ·have e1:(W.putObj l o').heap[k]? =W.heap[k]? :=World.putObj_heap_other hk
  unfold c4a;simp only[e1]
theorem c8a (Bm:Nat)(W:Wd)(k:Nat)(o:Obj)(h:c4a Bm (W.alloc o) k)(ho:a7a o=true):c4a Bm W k:=by
 have cP:(W.alloc o).heap[W.heap.size]? =some o:=World.alloc_heap_new W o;have hk:k≠W.heap.size:=λe=>b7p Bm _ k o (by rw[e];exact cP) ho h
 have ag:=c4b h;rw[World.size_alloc]at ag;have e1:(W.alloc o).heap[k]? =W.heap[k]? :=Below.heap_alloc W o k oM;obtain⟨⟨o',h1,h2⟩,h3⟩:=h;exact⟨⟨o',e1.symm.trans h1,h2⟩,h3⟩
structure RRr (n0:Nat)(w:Wd)(Bm:Nat)(L:List (Nat×Array Value×TypeId))(m:Nat)(en:List (Int×Bool))(W:Wd):Prop where
 mp:MapK prog idK boV W Bm m en
 o:∀q∈L,Blk W q.1 q.2.1 q.2.2
 ne:∀q∈L,q.1≠Bm
 bm:n0<=Bm
 bel:Below n0 w W
 nw:n0<=w.heap.size
section
variable {n0 Bm m:Nat}{w W W':Wd}{L:List (Nat×Array Value×TypeId)}{en:List (Int×Bool)}
theorem RRr.hz (h:RRr n0 w Bm L m en W):n0<=W.heap.size:=Nat.le_trans h.nw h.bel.size
theorem RRr.cm (h:RRr n0 w Bm L m en W):c4a Bm W Bm:=by
 obtain⟨D,⟨es,clock,he,-⟩,-⟩:=h.mp;exact⟨⟨_,he,rfl⟩,rfl⟩
theorem RRr.turn (h:RRr n0 w Bm L m en W){Z:Nat}(hz:n0<=Z)(hL:∀q∈L,q.1<Z){row:Option Nat}(hg:W.grownBy W' row)(hr:∀r,row=some r->Z<=r/\¬c4a Bm W r):RRr n0 w Bm L m en W' :=
 ⟨h.mp.kept hg (λe=>(hr Bm e).2 h.cm),λq hq=>(h.o q hq).kept hg (λe=>by have:=(hr _ e).1;have:=hL q hq;omega),h.ne,h.bm,h.bel.grown hg h.hz λr e=>Nat.le_trans hz (hr r e).1,h.nw⟩
theorem RRr.mine (h:RRr n0 w Bm L m en W){k:Nat}(hc:c4a Bm W' k):c4a Bm W k:=by
 obtain⟨-,rfl⟩:=hc;exact h.cm
theorem RRr.below (h:RRr n0 w Bm L m en W)(hb:Below W.heap.size W W'):RRr n0 w Bm L m en W' :=
 ⟨h.mp.below hb h.mp.lt,λq hq=>(h.o q hq).below hb (h.o q hq).lt,h.ne,h.bm,h.bel.trans (hb.mono h.hz),h.nw⟩
theorem RRr.keepP (h:RRr n0 w Bm L m en W)(hb:Below W.heap.size W W'):KeepP (c4a Bm) n0 W W' :=
 ⟨⟨hb.size,λk hk _=>hb.block k hk,λk hc=> .inl (h.mine hc)⟩,hb.mono h.hz⟩
theorem RRr.set (h:RRr n0 w Bm L m en W){m':Nat}{iG:List (Int×Bool)}(hm:MapK prog idK boV W' Bm m' iG)(hg:W.grownBy W' (some Bm)):RRr n0 w Bm L m' iG W'/\KeepP (c4a Bm) n0 W W' :=
 ⟨⟨hm,λq hq=>(h.o q hq).kept hg (λe=>h.ne q hq (by cases e;rfl)),h.ne,h.bm,h.bel.grown hg h.hz λr e=>by cases e;exact h.bm,h.nw⟩,
  ⟨⟨hg.size,λk hk hn=>hg.block k hk λe=>hn (by cases e;exact h.cm),λk hc=> .inl (h.mine hc)⟩,(show Below n0 W W from zR _ _).grown hg h.hz λr e=>by cases e;exact h.bm⟩⟩
end
abbrev crN (s:Sh)(pl:Pn)(qs:List Pc):Option (List Int):=qs.foldlM (a1m s.g (pfS s) pl) []
theorem d5w (s:Sh)(pl:Pn)(qs:List Pc)(p:Pc):crN s pl (qs++[p])=(crN s pl qs).bind λst=>a1m s.g (pfS s) pl st p:=by
 unfold crN;rw[List.foldlM_append]
 cases h:List.foldlM (a1m s.g (pfS s) pl) [] qs <;> simp
theorem d5x (s:Sh)(pl:Pn)(qs rs:List Pc)(p:Pc)(h:crN s pl (qs++[p])=none):crN s pl (qs++p::rs)=none:=by
 unfold crN at h ⊢;rw[show qs++p::rs=(qs++[p])++rs by simp,List.foldlM_append,h];rfl
def RC (n0:Nat)(w:Wd)(Bm:Nat)(L:List (Nat×Array Value×TypeId))(s:Sh)(pl:Pn)(pre:List (Pc×Value))(W:Wd):Prop :=
 ∃m en st,crN s pl (pre.map Prod.fst)=some st/\m<=pre.length/\SetI en st/\RRr n0 w Bm L m en W
theorem e1i {pl:Pn}{id:Int}{k:Nat}(h:why pl id=some k):∃hk:k<pl.left.length,pl.left[k]? =some pl.left[k]:=by
 unfold why at h;obtain⟨hk,-⟩:=List.findIdx?_eq_some_iff_getElem.1 h;exact⟨hk,List.getElem?_eq_getElem hk⟩
section
variable {g:Int}{pf:Pc->Bool×List Dt}{pl:Pn}{bT:List Int}{p:Pc}
theorem d1l (h:why pl p.id=none):a1m g pf pl bT p=some (p.id::bT):=by
 unfold a1m;rw[h];rfl
theorem d1m (h:p.id∈bT):a1m g pf pl bT p=some (p.id::bT):=by
 unfold a1m;split
 ·rfl
 ·rw[if_pos h]
theorem c4c {k:Nat}{l:Lf}(h:why pl p.id=some k)(hl:pl.left[k]? =some l)(hn:p.id∉bT):a1m g pf pl bT p=if b1u g pf pl bT p l then some (p.id::bT)else none:=by
 unfold a1m;rw[h,Option.bind_some,hl];simp only;rw[if_neg hn]
theorem d1n {l:Lf}(h:l.k=0/\l.i=0):b1u g pf pl bT p l= !(pf p).1:=by
 unfold b1u;rw[if_pos h]
theorem d5y {l:Lf}(h:¬(l.k=0/\l.i=0)):b1u g pf pl bT p l=((pf p).1&&(decide (l.k=2)||(decide (l.k=3)&&decide (l.i≠p.id)&&decide (l.i∈p.id::bT)))&&(a5i g (pl.dots.filter λd=> !a6d l.k l.i d) (pf p).2).isSome):=by
 unfold b1u;rw[if_neg h,show(λd:Dt=> !a6d l.k l.i d)=(λd=>decide (d.k=l.k)&&decide (d.i=l.i))from funext λd=>by unfold a6d;simp]
end
theorem c4d (s:Sh)(f0:fits s.ax)(f1:fits s.ay)(hs:a1h s=0)(ev fv wv pv dv kv lv:Vu)(l:List Pc)(pl:Pn)(w:Wd)(hL:Lst plE w.heap.size w pv l)(hF:Frm pv l.length)(hl:l.length<=100)(a7:∀p∈l,PcOk p/\p.cls.size<=1000)
 (hPow:∀W,Below w.heap.size w W->Pow W) (hd:Lst dtE w.heap.size w dv pl.dots) (mo:Frm dv pl.dots.length) (bR:∀d∈pl.dots,Sm d) (aO:pl.dots.length<=10000) (cZ:Lst lfE w.heap.size w lv pl.left) (jZ:Frm lv pl.left.length) (vO:∀x∈pl.left,fits x.i) :
 Calls prog 51 #[b3t ev fv wv pv,shV s,a1t dv kv lv] w λe w'=>(a1r s.g (pfS s) pl (a0q l)=true/\e= .returned (.tuple #[])\/a1r s.g (pfS s) pl (a0q l)=false/\e= .panicked (c3o 42))/\Below w.heap.size w w':=by
 have iD:=a4l hs;obtain⟨pa,pc,rfl,-⟩:=hL.form;obtain⟨da,dc,rfl,-⟩:=hd.form;obtain⟨la,lc,rfl,-⟩:=cZ.form;have jY:=λw4=>a5d s ev fv wv (.slice pa l.length pc) w4
 refine(callsIn_wide (n:=3)).1 ?_;refine a9g (f:=51) func51 rfl trivial rfl ?_;simp only[ntmps51,List.size_toArray,List.length_cons,List.length_nil,Nat.reduceAdd,Nat.reduceSub,Array.replicate_succ,Array.replicate_zero,List.push_toArray,List.append_toArray,List.nil_append,List.cons_append];refine AtFn.seq (AtFn.of (wpIn_wide.2 ?_));go_wp2_with fail;obtain⟨W1,aH,k1,k2,k3,aE,aW⟩:=d8w w #[ev,fv,wv,.slice pa l.length pc] #[.int .i64 s.ax,.int .i64 s.ay,.int .i64 s.st,.int .i64 s.w,.int .i64 s.h,.int .i64 s.g] #[.slice da pl.dots.length dc,kv,.slice la pl.left.length lc] 37 28 45;rw[aH];clear aH;replace aW:=Lib.hid aW;have vp:= @run_makeMap prog;refine AtFn.seq (AtFn.of (wpIn_wide.2 ?_));go_wp2_with fail;clear vp;refine AtFn.seq (AtFn.of (wpIn_wide.2 ?_));have nG:=(MapK.made prog idK boV W1).alloc (.cells #[.map (some W1.heap.size)] 169);have aR:=Blk.new (W1.alloc (.map #[] 0)) #[.map (some W1.heap.size)] 169;have dF:Below W1.heap.size W1 ((W1.alloc (.map #[] 0)).alloc (.cells #[.map (some W1.heap.size)] 169)):=((zR _ _).alloc (yR _) _).alloc vM _;simp only[World.size_alloc]at aR;obtain⟨W4,cQ⟩:=zE ((W1.alloc (.map #[] 0)).alloc (.cells #[.map (some W1.heap.size)] 169));have sI:W4.heap.size=W1.heap.size+1+1:=by rw[<-cQ];simp
 rw[cQ]at nG aR dF ⊢;clear cQ;replace aW:=aW.out;have yz:=k2.below dF k2.lt;have DM:=k3.below dF k3.lt;have DN:=k1.below dF k1.lt;have pY:Below w.heap.size w W4:=aE.trans (dF.mono aE.size);obtain⟨Bm,uY⟩:=zE W1.heap.size;rw[uY]at nG aR sI aW ⊢;have sJ:RRr w.heap.size w Bm (a4c s w.heap.size (Bm+1) Bm (.slice da pl.dots.length dc) kv (.slice la pl.left.length lc)) 0 [] W4:=⟨nG,a4k yz DM aR,a4k (by simp only;omega) (by simp only;omega) (by simp only;omega),oM,pY,yR _⟩;obtain⟨m0,m1,m2,m3⟩:=zN4 DN;obtain⟨s0,s1,s2,s3,s4,s5⟩:=zN6 yz;go_wp2_with (first
  |(go_at_call 35;(with_reducible refine(jY _).mono ?_);rintro e W5⟨rfl,km,ks,aZ⟩))
 rw[sI]at km ks aZ;have fI:Below w.heap.size w W5:=pY.trans (aZ.mono (by have:=pY.size;omega));have sK:=sJ.below (by rw[sI];exact aZ);have AG:=aZ.size;clear sJ m0 m1 m2 m3 s0 s1 s2 s3 s4 s5 k1 k2 k3 yz DM DN nG aR dF jY aE uY;have hZ:∀q∈(a4c s w.heap.size (Bm+1) Bm (.slice da pl.dots.length dc) kv (.slice la pl.left.length lc)),q.1<W5.heap.size:=a4k (by simp only;omega) (by simp only;omega) (by simp only;omega);have bN:=b7j 2 oM s f0 f1 ev fv wv (.slice pa l.length pc) l hl a7 (c4a Bm) w.heap.size W5 (Bm+1+1) (Bm+1+1+1) km ks (hL.up fI) hF fI.size
  (λW k hb hc=>by
   obtain⟨-,rfl⟩:=hc;exact⟨oM,oM⟩)
  (λW hb=>hPow W (fI.trans (hb.mono (yR _))))
 have QV:w.heap.size+1+1<Bm:=oM;have QW:Bm+1+1+1<W5.heap.size:=ks.lt;rw[<-aW];clear aW sI AG aZ pY;refine AtFn.block ?_;refine a7z (α:=Pc×Value) 18 7 (λx=>e0v s x) rfl oM rfl trivial (enters_of func84 zM rfl) (d5v Bm) (b7p Bm) (c8a Bm) (λk=>c4b) (n0:=w.heap.size) fI.size (Kx:=KxC s (a0q l)) (λpre x W l o o' h1 h2 h3=>KxC.put h1 (a1s h2) (a1s h3)) (S:=λxs=>xs.map Prod.fst=a0q l) (N:=101) (w0:=W5) bN (zR _ _)
  (λpre W=>RC w.heap.size w Bm (a4c s w.heap.size (Bm+1) Bm (.slice da pl.dots.length dc) kv (.slice la pl.left.length lc)) s pl pre W) ?hI ?hIC ?h0 (λch W=>ch=c3o 42/\a1r s.g (pfS s) pl (a0q l)=false/\Below w.heap.size w W) ⟨_,func51⟩ trivial 92 (λx=> #[.int .i64 x.1.id,.int .i64 x.1.x,.int .i64 x.1.y,.string x.1.cls,.string x.1.nm,.int .i64 x.1.wt,.int .i64 x.1.ds,x.2,.bool (pfS s x.1).1]) (λpre x W o h=>h.alloc o) (λpre W k h hc=>c4b hc) ?assign ?body ?hpan ?done
 case hI =>
  rintro pre A A' row⟨m,en,st,h1,h2,h5,h6⟩ hg hr;exact⟨m,en,st,h1,h2,h5,h6.turn fI.size hZ hg hr⟩
 case hIC =>
  rintro pre A A' row k⟨m,en,st,h1,h2,h5,h6⟩ hg hr hc;exact h6.mine hc
 case h0=>exact⟨0,[],[],rfl,yR _,SetI.nil,sK⟩
 case assign =>
  exact ycs
 case body =>
  clear bN km ks sK;rintro ly pre⟨⟨id,x,y,cls,nm,wt,ds⟩,xv⟩ W B ⟨m,en,st,mr,hm,jF,hD⟩ ⟨⟨rs,q9⟩,ig,Be⟩ hB DE re ag;have mz:(⟨id,x,y,cls,nm,wt,ds⟩:Pc)∈a0q l:=by rw[q9];simp
  obtain⟨dY,ie⟩:=a7 _ ((a0v l).mem_iff.1 mz);have au:crN s pl ((pre++[((⟨id,x,y,cls,nm,wt,ds⟩:Pc),xv)]).map Prod.fst)=a1m s.g (pfS s) pl st ⟨id,x,y,cls,nm,wt,ds⟩:=by
   rw[List.map_append];refine(d5w s pl (pre.map Prod.fst) _).trans ?_;rw[mr];rfl
  have aK:a1m s.g (pfS s) pl st ⟨id,x,y,cls,nm,wt,ds⟩=none->a1r s.g (pfS s) pl (a0q l)=false:=λh=>by
   rw[h,List.map_append]at au;have h2:=d5x s pl (pre.map Prod.fst) rs _ au;unfold a1r;have h3:List.foldlM (a1m s.g (pfS s) pl) [] (a0q l)=none:=by rw[q9];exact h2
   rw[h3];rfl
  clear q9;have Ja:KeepP (c4a Bm) w.heap.size W W:=⟨⟨yR _,λ_ _ _=>rfl,λk hc=> .inl hc⟩,zR _ _⟩;have gq:=c3p (.slice da pl.dots.length dc) kv (.slice la pl.left.length lc) pl id W (cZ.up hD.bel) jZ;have Bf:∀d∈(pfS s ⟨id,x,y,cls,nm,wt,ds⟩).2,Sm d:=λd hd=>d5k iD (c7n s _ d hd)
  have fM:=a8h s ⟨id,x,y,cls,nm,wt,ds⟩;have dM:= @d1n s.g (pfS s) pl st ⟨id,x,y,cls,nm,wt,ds⟩;have jE:= @d5y s.g (pfS s) pl st ⟨id,x,y,cls,nm,wt,ds⟩;have dN:= @c4c s.g (pfS s) pl st ⟨id,x,y,cls,nm,wt,ds⟩;have mu:= @d1m s.g (pfS s) pl st ⟨id,x,y,cls,nm,wt,ds⟩;have s9:= @d1l s.g (pfS s) pl st ⟨id,x,y,cls,nm,wt,ds⟩;obtain⟨⟨on,dl⟩,gS⟩:∃r,pfS s ⟨id,x,y,cls,nm,wt,ds⟩=r:=⟨_,rfl⟩;simp only[gS]at hB ig Be fM Bf dM jE;obtain⟨xa,xc,rfl,-⟩:=ig.form;have MK:=hD.hz;have b0:W.cell? ⟨B,0,none⟩=some (.int .i64 id):=hB.cell 0;have jq:Blk W (w.heap.size+1+1) #[.slice da pl.dots.length dc,kv,.slice la pl.left.length lc] 45:=hD.o (w.heap.size+1+1,#[.slice da pl.dots.length dc,kv,.slice la pl.left.length lc],45) (by unfold a4c;simp);obtain⟨q0,q1,q2⟩:=zN3 jq;obtain⟨kz,DR⟩:=zE (a8n (why pl id));rw[DR]at gq;gi_upto_region 5 with(first
   |(refine⟨trivial,?_⟩;gi_at_call 107;refine(CallsIn.inRound ly (callsIn_wide.2 gq)).mono ?_;rintro e w8⟨rfl,bf⟩))
  have dn:=hD.below bf;have ng:=Ja.trans (hD.keepP bf);have sL:=hB.below bf hB.lt;have DS:=ig.up bf;have ML:=bf.size;clear b0 jq q0 q1 q2 gq hD ig bf Ja;have b0:w8.cell? ⟨B,0,none⟩=some (.int .i64 id):=sL.cell 0;have mh:Blk w8 (Bm+1) #[.map (some Bm)] 169:=dn.o (Bm+1,#[.map (some Bm)],169) (by unfold a4c;simp);have l0:w8.cell? ⟨Bm+1,0,none⟩=some (.map (some Bm)):=mh.cell 0;have oS:=c3x dn.mp dY.id;rw[jF id]at oS;clear mh;by_cases fD:why pl id=none\/id∈st
  ·have BJ:crN s pl ((pre++[((⟨id,x,y,cls,nm,wt,ds⟩:Pc),Value.slice xa dl.length xc)]).map Prod.fst)=some (id::st):=by
    rcases fD with h|h
    ·rw[au,s9 h]
    ·rw[au,mu h]
   rcases fD with h|h
   ·rw[h]at DR
    subst DR;clear aK au dM jE dN mu s9 h;simp only[a8n];gi_wp2_with (first
     |(gi_at_mapUpdate;refine MapK.wpIn_store e2d qM _ _ _ 169 qM underlying169 qM dn.mp oK dY.id qM (y:=true) qM (plainElem_bool underlying4 true) ?_;intro w7 tf nZ
       obtain⟨i6,lU⟩:=dn.set tf nZ))
    exact⟨ng.trans lU,m+1,_,_,BJ,by simp;omega,jF.put id,i6⟩
   ·rw[decide_eq_true h]at oS
    by_cases I5:kz<0
    ·exact ydd
    ·exact ydd
  ·obtain⟨DT,bP⟩:=not_or.1 fD
   obtain⟨k,tV⟩:=Option.ne_none_iff_exists'.1 DT;rw[decide_eq_false bP]at oS;obtain⟨aR,cX⟩:=e1i tV;rw[tV]at DR;subst DR;simp only[a8n];obtain⟨⟨lp,lk,li⟩,aJ⟩:∃x,pl.left[k]=x:=⟨_,rfl⟩;rw[aJ]at cX;have Jg:fits li:=by have:=vO _ (List.getElem_mem aR);rw[aJ]at this;exact this
   have hF:b1u s.g (pfS s) pl st ⟨id,x,y,cls,nm,wt,ds⟩ ⟨lp,lk,li⟩=false->a1r s.g (pfS s) pl (a0q l)=false:=λh=>aK (by rw[dN tV cX bP,h];rfl)
   have hT:b1u s.g (pfS s) pl st ⟨id,x,y,cls,nm,wt,ds⟩ ⟨lp,lk,li⟩=true->crN s pl ((pre++[((⟨id,x,y,cls,nm,wt,ds⟩:Pc),Value.slice xa dl.length xc)]).map Prod.fst)=some (id::st):=λh=>by rw[au,dN tV cX bP,h];rfl
   replace dM:= @dM ⟨lp,lk,li⟩;replace jE:= @jE ⟨lp,lk,li⟩;simp only at dM jE;have iB:¬((k:Nat):Int)<0:=oM;clear aK au dN mu s9 fD DT tV cX mr bP;gi_upto_region 8 with(first
    |(gi_at_mapUpdate;refine MapK.wpIn_store e2d qM _ _ _ 169 qM underlying169 qM dn.mp oK dY.id qM (y:=true) qM (plainElem_bool underlying4 true) ?_;intro w7 tf nZ))
   obtain⟨i6,lU⟩:=dn.set tf nZ;replace lU:=ng.trans lU;have jd:=(lU.k.same B hB.lt (λh=>re _ h rfl)).trans hB;replace jd:Blk w7 B _ _:=jd;have ui:=d1j DS nZ dn.mp;have iz:=jF.put id;have oF:Blk w7 (w.heap.size+1+1) #[.slice da pl.dots.length dc,kv,.slice la pl.left.length lc] 45:=i6.o (w.heap.size+1+1,#[.slice da pl.dots.length dc,kv,.slice la pl.left.length lc],45) (by unfold a4c;simp);obtain⟨q0,q1,q2⟩:=zN3 oF;obtain⟨lb,A7,ar,hv,-,sj,eU⟩:=(cZ.up i6.bel).some_ oM;simp only[Value.slice.injEq,true_and]at hv;obtain⟨rfl,rfl⟩:=hv;have aB:=eU k aR;rw[aJ]at aB;obtain⟨c0,c1,c2⟩:=c1r aB;have kt:(k:Int)<(pl.left.length:Int):=oM;clear b0 l0 oS tf nZ aJ aB eU oF jF dn ng sL hB DS;gi_upto_region 9 with fail
   have kX:=Blk.new w7 #[.int .i64 lp,.int .i64 lk,.int .i64 li] 68;have rl:Below w7.heap.size w7 (w7.alloc (.cells #[.int .i64 lp,.int .i64 lk,.int .i64 li] 68)):=(zR _ _).alloc (yR _) _;have jB:=i6.below rl;have iW:=lU.trans (i6.keepP rl);have cn:=jd.below rl jd.lt;have wH:=ui.up rl;obtain⟨BX,yF⟩:=zE w7.heap.size;obtain⟨w9,DU⟩:=zE (w7.alloc (.cells #[.int .i64 lp,.int .i64 lk,.int .i64 li] 68));rw[DU]at kX jB iW cn wH;rw[DU];rw[yF]at kX;rw[yF];clear DU yF c0 c1 c2 q0 q1 q2 i6 lU jd ui rl kt iB;obtain⟨x0,x1,x2⟩:=zN3 kX;have r0:w9.cell? ⟨B,0,none⟩=some (.int .i64 id):=cn.cell 0;have r7:w9.cell? ⟨B,7,none⟩=some (.slice xa dl.length xc):=cn.cell 7;have r8:w9.cell? ⟨B,8,none⟩=some (.bool on):=cn.cell 8;have mh:Blk w9 (Bm+1) #[.map (some Bm)] 169:=jB.o (Bm+1,#[.map (some Bm)],169) (by unfold a4c;simp);have l0:w9.cell? ⟨Bm+1,0,none⟩=some (.map (some Bm)):=mh.cell 0;by_cases bM:lk=0/\li=0
   ·have hc:=dM bM
    have pA:(lk==0)=true:=by simpa using bM.1
    have aT:(li==0)=true:=by simpa using bM.2
    clear bM dM jE
    cases on
    ·gi_wp2_with (first
      |(refine⟨trivial,?_⟩;gi_at_call 106;refine(CallsIn.inRound ly (callsIn_wide.2 (a3o 42 _))).mono ?_;rintro e gh⟨rfl,rfl⟩))
     first|exact⟨iW,m+1,_,_,hT hc,by simp;omega,iz,jB⟩|exact⟨m+1,_,_,hT hc,by simp;omega,iz,jB⟩
    ·gi_wp2_with (first
      |(refine⟨trivial,?_⟩;gi_at_call 106;refine(CallsIn.inRound ly (callsIn_wide.2 (a3e 42 _))).mono ?_;rintro e gh⟨rfl,rfl⟩))
     first|exact⟨hF hc,jB.bel⟩|exact jB.bel
   ·have hc:=jE bM
    have aT:lk=0->(li==0)=false:=λh=>by
     have:li≠0:=λh'=>bM ⟨h,h'⟩
     simpa using this
    clear bM dM jE;by_cases h0:lk=0
    ·have QX:=aT h0
     have pA:(lk==0)=true:=by simpa using h0
     have du:(lk==2)=false:=by rw[h0];rfl
     have kg:(lk==3)=false:=by rw[h0];rfl
     have gj:b1u s.g (pfS s) pl st ⟨id,x,y,cls,nm,wt,ds⟩ ⟨lp,lk,li⟩=false:=by rw[hc,h0];simp
     clear aT h0 hc hT
     cases on
     ·gi_wp2_with (first
       |(refine⟨trivial,?_⟩;gi_at_call 106;refine(CallsIn.inRound ly (callsIn_wide.2 (a3e 42 _))).mono ?_;rintro e gh⟨rfl,rfl⟩))
      exact yft
     ·gi_wp2_with (first
       |(refine⟨trivial,?_⟩;gi_at_call 106;refine(CallsIn.inRound ly (callsIn_wide.2 (a3e 42 _))).mono ?_;rintro e gh⟨rfl,rfl⟩))
      exact yft
    ·have pA:(lk==0)=false:=by simpa using h0
     clear aT
     cases on
     ·have gj:b1u s.g (pfS s) pl st ⟨id,x,y,cls,nm,wt,ds⟩ ⟨lp,lk,li⟩=false:=by rw[hc];rfl
      clear h0 hc hT;gi_wp2_with (first
       |(refine⟨trivial,?_⟩;gi_at_call 106;refine(CallsIn.inRound ly (callsIn_wide.2 (a3e 42 _))).mono ?_;rintro e gh⟨rfl,rfl⟩))
      exact yft
     ·by_cases h2:lk=2
      ·have du:(lk==2)=true:=by simpa using h2
       have bK:b1u s.g (pfS s) pl st ⟨id,x,y,cls,nm,wt,ds⟩ ⟨lp,lk,li⟩=(a5i s.g (pl.dots.filter λd=> !a6d lk li d) dl).isSome:=by rw[hc,decide_eq_true h2];simp
       clear h0 h2 hc;gi_upto_region 12 with(first
        |(refine⟨trivial,?_⟩;gi_at_call 106;refine(CallsIn.inRound ly (callsIn_wide.2 (a3o 42 _))).mono ?_;rintro e w9⟨rfl,rfl⟩))
       exact yaf
      ·have du:(lk==2)=false:=by simpa using h2
       by_cases h3:lk=3
       ·have kg:(lk==3)=true:=by simpa using h3
        by_cases hid:li=id
        ·have Jh:(li != id)=false:=by simpa using hid
         have gj:b1u s.g (pfS s) pl st ⟨id,x,y,cls,nm,wt,ds⟩ ⟨lp,lk,li⟩=false:=by rw[hc,decide_eq_false h2];simp[hid]
         clear h0 h2 h3 hid hc hT;gi_wp2_with (first
          |(refine⟨trivial,?_⟩;gi_at_call 106;refine(CallsIn.inRound ly (callsIn_wide.2 (a3e 42 _))).mono ?_;rintro e gh⟨rfl,rfl⟩))
         exact yft
        ·have Jh:(li != id)=true:=by simpa using hid
         have oS:=c3x jB.mp Jg;rw[iz li]at oS;by_cases pL:li∈id::st
         ·rw[decide_eq_true pL]at oS
          have bK:b1u s.g (pfS s) pl st ⟨id,x,y,cls,nm,wt,ds⟩ ⟨lp,lk,li⟩=(a5i s.g (pl.dots.filter λd=> !a6d lk li d) dl).isSome:=by rw[hc,decide_eq_true h3,decide_eq_true pL,decide_eq_true hid];simp
          clear h0 h2 h3 hid pL hc;gi_upto_region 12 with(first
           |(refine⟨trivial,?_⟩;gi_at_call 106;refine(CallsIn.inRound ly (callsIn_wide.2 (a3o 42 _))).mono ?_;rintro e w9⟨rfl,rfl⟩))
          exact yaf
         ·rw[decide_eq_false pL]at oS
          have gj:b1u s.g (pfS s) pl st ⟨id,x,y,cls,nm,wt,ds⟩ ⟨lp,lk,li⟩=false:=by rw[hc,decide_eq_false h2,decide_eq_false pL];simp
          clear h0 h2 h3 hid pL hc hT;gi_wp2_with (first
           |(refine⟨trivial,?_⟩;gi_at_call 106;refine(CallsIn.inRound ly (callsIn_wide.2 (a3e 42 _))).mono ?_;rintro e gh⟨rfl,rfl⟩))
          exact yft
       ·have kg:(lk==3)=false:=by simpa using h3
        have gj:b1u s.g (pfS s) pl st ⟨id,x,y,cls,nm,wt,ds⟩ ⟨lp,lk,li⟩=false:=by rw[hc,decide_eq_false h2,decide_eq_false h3];simp
        clear h0 h2 h3 hc hT;gi_wp2_with (first
         |(refine⟨trivial,?_⟩;gi_at_call 106;refine(CallsIn.inRound ly (callsIn_wide.2 (a3e 42 _))).mono ?_;rintro e gh⟨rfl,rfl⟩))
        exact yft
 case hpan =>
  exact yew
 case done =>
  rintro D xs W BZ hS⟨m,en,st,h1,-,-,h6⟩ hK;rw[hS]at h1;have Ca:a1r s.g (pfS s) pl (a0q l)=true:=by
   unfold a1r;have Jd:List.foldlM (a1m s.g (pfS s) pl) [] (a0q l)=some st:=h1;rw[Jd];rfl
  have fg:=grownBy_putObj' W D (.deferred none);have gR:=h6.bel;refine⟨by simp,.inl ⟨_,_,rfl,run_takeDeferred hK,?_⟩⟩;exact⟨_,results_none rfl _ _ _,.inl ⟨Ca,rfl⟩,gR.grown fg gR.size λr e=>by cases e;have:=fI.size;omega⟩
end
section
open Go Go.RowKit
theorem d9e (q:Addr)(x e:Int)(w:Wd)(hc:w.cell? q=some (.int .i64 x))(hz:w.frozen? q=false) :
 CallsD prog 47 #[.pointer (some q)] (.panicking [{ v:= .iface 101 (.int .i64 e),recovered:=false }]) w λr u' w' =>
  r= .returned (.tuple #[])/\u'= .panicking [{ v:= .iface 101 (.int .i64 e),recovered:=true }]/\w'=w.setCell q (.int .i64 e):=by
 refine callsD_of_wpS func47 rfl λDV cs hu=> ?_
 apply wpS_seq;apply wpS_region;simp[wpOpsS,go_sem,recoverD,hu,ntmps47,Exit.thenS];apply wpS_seq;apply wpS_region;simp[wpOpsS,go_sem,Exit.thenS];refine wpS_cond (t:=true) (by simp[Act.eval]) ?_;simp only[if_true];refine wpS_of_wp ?_;simp[Array.replicate_succ,Array.replicate_zero];have AK:∀w,(Instr.typeAssert (.iface 101 (.int .i64 e)) 20 101 true).run prog w= .ok (.tuple #[.int .i64 e,.bool true]) w:=λw=>by kernel_rfl
 go_wp2_with fail;simp[bodyPostS,results,results47]
theorem d1o (q:Addr)(w:Wd) :
 CallsD prog 47 #[.pointer (some q)] .returning w λr u' w'=>r= .returned (.tuple #[])/\u'= .returning/\w'=w:=by
 refine callsD_of_wpS func47 rfl λDV cs hu=> ?_
 apply wpS_seq;apply wpS_region;simp[wpOpsS,go_sem,recoverD,hu,ntmps47,Exit.thenS];apply wpS_seq;apply wpS_region;simp[wpOpsS,go_sem,Exit.thenS];refine wpS_cond (t:=false) (by simp[Act.eval]) ?_;simp only[Bool.false_eq_true,if_false];refine wpS_of_wp (wp_skip ?_)
 cases DV;simp_all [bodyPostS,results,results47]
end
section
open Go Go.RowKit Go.Shelf Go.Lib
variable{a cs ds tmps:Array Value}{S:BS}{g i n:Nat}{P:Program}{t ty tz u:Td}{v:Vu}{W w:Wd}
theorem Calls.first30 {f:FuncId}{A B:Prop}{e1 e2:Ending}{C:World->Prop}(hb:¬B)(h:Calls P f a w λe w'=>(A/\e=e1\/B/\e=e2)/\C w'):Calls P f a w λe w'=>e=e1/\C w' :=
 h.mono λ_ _ ⟨h1,h2⟩=>⟨h1.elim (λx=>x.2) λx=>absurd x.1 hb,h2⟩
theorem Calls.second30 {f:FuncId}{A B:Prop}{e1 e2:Ending}{C:World->Prop}(ha:¬A)(h:Calls P f a w λe w'=>(A/\e=e1\/B/\e=e2)/\C w'):Calls P f a w λe w'=>e=e2/\C w' :=
 h.mono λ_ _ ⟨h1,h2⟩=>⟨h1.elim (λx=>absurd x.1 ha) λx=>x.2,h2⟩
theorem a3b {W2:Wd}{ev fv wv pv dv kv lv:Vu}{s:Sh}(k1:Blk W n #[ev,fv,wv,pv] 37)(k2:Blk W (n+1) #[.int .i64 s.ax,.int .i64 s.ay,.int .i64 s.st,.int .i64 s.w,.int .i64 s.h,.int .i64 s.g] 28)(k3:Blk W (n+1+1) #[dv,kv,lv] 45)(k4:Blk W (n+1+1+1) #[.int .i64 0] 46)(hb:Below W.heap.size W W2):
 (W2.cell? ⟨n,0,none⟩=some ev/\W2.cell? ⟨n,1,none⟩=some fv/\W2.cell? ⟨n,2,none⟩=some wv/\W2.cell? ⟨n,3,none⟩=some pv)/\(W2.cell? ⟨n+1,0,none⟩=some (.int .i64 s.ax)/\W2.cell? ⟨n+1,1,none⟩=some (.int .i64 s.ay)/\W2.cell? ⟨n+1,2,none⟩=some (.int .i64 s.st)/\W2.cell? ⟨n+1,3,none⟩=some (.int .i64 s.w)/\W2.cell? ⟨n+1,4,none⟩=some (.int .i64 s.h)/\W2.cell? ⟨n+1,5,none⟩=some (.int .i64 s.g))/\(W2.cell? ⟨n+1+1,0,none⟩=some dv/\W2.cell? ⟨n+1+1,1,none⟩=some kv/\W2.cell? ⟨n+1+1,2,none⟩=some lv)/\W2.cell? ⟨n+1+1+1,0,none⟩=some (.int .i64 0)/\W2.frozen? ⟨n+1+1+1,0,none⟩=false:=by
 have h1:=k1.below hb k1.lt;have h2:=k2.below hb k2.lt;have h3:=k3.below hb k3.lt;have h4:=k4.below hb k4.lt;exact⟨⟨h1.cell 0,h1.cell 1,h1.cell 2,h1.cell 3⟩,⟨h2.cell 0,h2.cell 1,h2.cell 2,h2.cell 3,h2.cell 4,h2.cell 5⟩,⟨h3.cell 0,h3.cell 1,h3.cell 2⟩,h4.cell 0,h4.frozen 0⟩
theorem c0p (s:Sh)(f0:fits s.ax)(f1:fits s.ay)(ev fv wv dv kv lv:Vu)(pa:Option Addr)(pn pc:Nat)(c:Int)(DW:a2m s pn=c)(hs:c≠0)(w:Wd):
 Zc prog 19 #[b3t ev fv wv (.slice pa pn pc),shV s,a1t dv kv lv] w (.int .i64 c):=by
 have fV:=λw=>b3s s ev fv wv pa pn pc w f0 f1
 rw[DW]at fV;have fT:(c != 0)=true:=by simpa using hs
 clear DW;have wF:∀(fn:Fn) (first cap:Array Value) (w:Wd),(Instr.makeFunc fn first cap).run prog w= .ok (.func fn first cap) w:=λ_ _ _ _=>rfl
 go_enter_defers func19,ntmps19
 go_upto_region 1 with fail;obtain⟨W0,eA,k1,k2,k3,aE,bM⟩:=d8w w #[ev,fv,wv,.slice pa pn pc] #[.int .i64 s.ax,.int .i64 s.ay,.int .i64 s.st,.int .i64 s.w,.int .i64 s.h,.int .i64 s.g] #[dv,kv,lv] 37 28 45;obtain⟨W1,aH,k4,ed,aW⟩:=d8v W0 #[.int .i64 0] 46;rw[eA,aH];rw[bM]at aW k4;replace k1:=k1.below ed k1.lt;replace k2:=k2.below ed k2.lt;replace k3:=k3.below ed k3.lt;replace aE:=aE.trans (ed.mono aE.size);clear bM ed eA;clear aH;replace aW:=Lib.hid aW;obtain⟨⟨m0,m1,m2,m3⟩,⟨s0,s1,s2,s3,s4,s5⟩,⟨p0,p1,p2⟩,e0,e1⟩:=a3b k1 k2 k3 k4 (zR _ _);go_wp2_with (first
  |(go_at_call 33;(with_reducible refine(fV _).mono ?_);rintro e W2⟨rfl,az⟩
    obtain⟨-,-,-,x0,x1⟩:=a3b k1 k2 k3 k4 az))
 have gR:=aE.trans (az.mono aE.size);refine leaves_cons (f:=47) (args:= #[.pointer (some ⟨w.heap.size+1+1+1,0,none⟩)]) vM (by simp[go_sem]) ?_;refine(d1o _ _).mono ?_;rintro e u' w9⟨rfl,rfl,rfl⟩;obtain⟨W9,fP⟩:=zE (W2.setCell ⟨w.heap.size+1+1+1,0,none⟩ (.int .i64 c));have br:Below w.heap.size w W9:=by rw[<-fP];exact gR.setCell (show w.heap.size<=w.heap.size+1+1+1 by omega) _
 have y0:W9.cell? ⟨w.heap.size+1+1+1,0,none⟩=some (.int .i64 c):=by rw[<-fP];exact((k4.below az k4.lt).set 0 _).cell 0
 rw[fP];simp[Leaves,settle,results,results19,go_sem,y0];exact br
theorem e1j (s:Sh)(f0:fits s.ax)(f1:fits s.ay)(hs:a1h s≠0)(ev fv wv dv kv lv:Vu)(pa:Option Addr)(pn pc:Nat)(w:Wd):
 Zc prog 19 #[b3t ev fv wv (.slice pa pn pc),shV s,a1t dv kv lv] w (.int .i64 (a1h s)) :=
 c0p s f0 f1 ev fv wv dv kv lv pa pn pc _ (by unfold a2m;rw[if_neg hs]) hs w
theorem a6e (s:Sh)(f0:fits s.ax)(f1:fits s.ay)(hs:a1h s=0)(ev fv wv pv v:Vu)(l:List Pc)(ws:List Wy)(pl:Pn)(w:Wd)(hL:Lst plE w.heap.size w pv l)(hF:Frm pv l.length)(hl:l.length<=80)(a7:∀p∈l,PcOk p/\p.cls.size<=1000)
 (hW:Wys w.heap.size w wv ws) (hid:∀y∈ws,fits y.id) (hlen:ws.length<=100) (Ce:∀y∈ws,y.line.length<=100) (hPow:∀W,Below w.heap.size w W->Pow W)
 (hP:PlanIn w v pl) (bR:∀d∈pl.dots,Sm d) (aO:pl.dots.length<=10000) (vO:∀x∈pl.left,fits x.i) (r:Int) (hr:a8w s.g (pfS s) a2s pl (wdF s ws) (a0q l)=r) :
 Zc prog 19 #[b3t ev fv wv pv,shV s,v] w (.int .i64 r):=by
 obtain⟨dv,kv,lv,rfl,⟨hd,mo⟩,⟨hk,DX⟩,cZ,jZ⟩:=hP.ex;have fV:=λpa pc X=>b3s s ev fv wv pa l.length pc X f0 f1
 unfold a2m at fV;rw[if_pos hs,if_neg oM]at fV;have yH:=λX (hb:Below w.heap.size w X)=>d5u s f0 f1 hs ev fv wv pv dv kv lv l ws pl X (hL.up hb) hF oM a7 (hW.up hb hb.size) hid hlen Ce (λY hY=>hPow Y (hb.trans (hY.mono hb.size))) (hd.up hb) (cZ.up hb) jZ
 have oT:=λX (hb:Below w.heap.size w X)=>d5o s dv kv lv pl.dots X (hd.up hb) oM
 rw[d9d bR]at oT;have cL:=λX (hb:Below w.heap.size w X)=>d5p ev fv wv pv dv kv lv l pl X (hL.up hb) hF oM a7 (hk.up hb) (cZ.up hb) jZ
 have j4:=λX (hb:Below w.heap.size w X)=>c4d s f0 f1 hs ev fv wv pv dv kv lv l pl X (hL.up hb) hF oM a7 (λY hY=>hPow Y (hb.trans (hY.mono hb.size))) (hd.up hb) mo bR aO (cZ.up hb) jZ vO
 unfold a8w at hr;obtain⟨pa,pc,rfl,-⟩:=hL.form;obtain⟨pn,qD⟩:=zE l.length;rw[qD]at fV yH cL j4 ⊢;clear hL hF a7 hW hid hlen Ce hPow hP bR aO vO hd mo hk DX cZ jZ hl hs f0 f1 qD;have wF:∀(fn:Fn) (first cap:Array Value) (w:Wd),(Instr.makeFunc fn first cap).run prog w= .ok (.func fn first cap) w:=λ_ _ _ _=>rfl
 go_enter_defers func19,ntmps19
 go_upto_region 1 with fail;obtain⟨W0,eA,k1,k2,k3,aE,bM⟩:=d8w w #[ev,fv,wv,.slice pa pn pc] #[.int .i64 s.ax,.int .i64 s.ay,.int .i64 s.st,.int .i64 s.w,.int .i64 s.h,.int .i64 s.g] #[dv,kv,lv] 37 28 45;obtain⟨W1,aH,k4,ed,aW⟩:=d8v W0 #[.int .i64 0] 46;rw[eA,aH];rw[bM]at aW k4;replace k1:=k1.below ed k1.lt;replace k2:=k2.below ed k2.lt;replace k3:=k3.below ed k3.lt;replace aE:=aE.trans (ed.mono aE.size);clear bM ed eA;clear aH;replace aW:=Lib.hid aW;obtain⟨⟨m0,m1,m2,m3⟩,⟨s0,s1,s2,s3,s4,s5⟩,⟨p0,p1,p2⟩,e0,e1⟩:=a3b k1 k2 k3 k4 (zR _ _);go_upto_region 5 with(first
  |(go_at_call 33;(with_reducible refine(fV _ _ _).mono ?_);rintro e W2⟨rfl,az⟩
    have oU:=az;obtain⟨⟨m0,m1,m2,m3⟩,⟨s0,s1,s2,s3,s4,s5⟩,⟨p0,p1,p2⟩,x0,x1⟩:=a3b k1 k2 k3 k4 oU;have DZ:=aE.trans (oU.mono aE.size)))
 cases h1:cdF (pfS s) pl (wdF s ws) (a0q l)
 ·have yI:=λX hb=>Calls.second30 (by rw[h1];decide) (yH X hb)
  rw[h1,if_neg jM]at hr;subst hr;clear yH oT cL j4 h1;go_wp2_with (first
   |(go_at_call 48;(with_reducible refine(yI _ DZ).mono ?_);rintro e V0⟨rfl,fT⟩
     have jf:=oU.trans (fT.mono oU.size);obtain⟨⟨m0,m1,m2,m3⟩,⟨s0,s1,s2,s3,s4,s5⟩,⟨p0,p1,p2⟩,x0,x1⟩:=a3b k1 k2 k3 k4 jf;have lq:=aE.trans (jf.mono aE.size)))
  have bA:=jf;exact yjk
 ·have yI:=λX hb=>Calls.first30 (by rw[h1];decide) (yH X hb)
  rw[h1,if_pos rfl]at hr;clear yH h1;go_upto_region 6 with(first
   |(go_at_call 48;(with_reducible refine(yI _ DZ).mono ?_);rintro e V0⟨rfl,fT⟩
     have jf:=oU.trans (fT.mono oU.size);obtain⟨⟨m0,m1,m2,m3⟩,⟨s0,s1,s2,s3,s4,s5⟩,⟨p0,p1,p2⟩,x0,x1⟩:=a3b k1 k2 k3 k4 jf;have lq:=aE.trans (jf.mono aE.size)))
  cases h2:b1m s.g pl.dots
  ·have yJ:=λX hb=>Calls.second30 (by rw[h2];decide) (oT X hb)
   rw[h2,if_neg jM]at hr;subst hr;clear oT cL j4 h2;go_wp2_with (first
    |(go_at_call 49;(with_reducible refine(yJ _ lq).mono ?_);rintro e V1⟨rfl,cj⟩
      have jg:=jf.trans (cj.mono jf.size);obtain⟨⟨m0,m1,m2,m3⟩,⟨s0,s1,s2,s3,s4,s5⟩,⟨p0,p1,p2⟩,x0,x1⟩:=a3b k1 k2 k3 k4 jg;have dT:=aE.trans (jg.mono aE.size)))
   have bA:=jg;obtain⟨cc,lI⟩:∃c:Int,c=41:=⟨_,rfl⟩;exact yap
  ·have yJ:=λX hb=>Calls.first30 (by rw[h2];decide) (oT X hb)
   rw[h2,if_pos rfl]at hr;clear oT h2;go_upto_region 7 with(first
    |(go_at_call 49;(with_reducible refine(yJ _ lq).mono ?_);rintro e V1⟨rfl,cj⟩
      have jg:=jf.trans (cj.mono jf.size);obtain⟨⟨m0,m1,m2,m3⟩,⟨s0,s1,s2,s3,s4,s5⟩,⟨p0,p1,p2⟩,x0,x1⟩:=a3b k1 k2 k3 k4 jg;have dT:=aE.trans (jg.mono aE.size)))
   by_cases h3:a1p a2s pl (a0q l)=pl.keys
   rotate_left 1
   ·have yK:=λX hb=>Calls.second30 h3 (cL X hb)
    rw[if_neg h3]at hr;subst hr;clear cL j4 h3;go_wp2_with (first
     |(go_at_call 50;(with_reducible refine(yK _ dT).mono ?_);rintro e V2⟨rfl,bK⟩
       have jh:=jg.trans (bK.mono jg.size);obtain⟨⟨m0,m1,m2,m3⟩,⟨s0,s1,s2,s3,s4,s5⟩,⟨p0,p1,p2⟩,x0,x1⟩:=a3b k1 k2 k3 k4 jh;have fw:=aE.trans (jh.mono aE.size)))
    have bA:=jh;exact yjk
   ·have yK:=λX hb=>Calls.first30 (λh=>h h3) (cL X hb)
    rw[if_pos h3]at hr;clear cL h3;go_upto_region 8 with(first
     |(go_at_call 50;(with_reducible refine(yK _ dT).mono ?_);rintro e V2⟨rfl,bK⟩
       have jh:=jg.trans (bK.mono jg.size);obtain⟨⟨m0,m1,m2,m3⟩,⟨s0,s1,s2,s3,s4,s5⟩,⟨p0,p1,p2⟩,x0,x1⟩:=a3b k1 k2 k3 k4 jh;have fw:=aE.trans (jh.mono aE.size)))
    cases h4:a1r s.g (pfS s) pl (a0q l)
    ·have yL:=λX hb=>Calls.second30 (by rw[h4];decide) (j4 X hb)
     rw[h4,if_neg jM]at hr;subst hr;clear j4 h4;go_wp2_with (first
      |(go_at_call 51;(with_reducible refine(yL _ fw).mono ?_);rintro e V3⟨rfl,nD⟩
        have mM:=jh.trans (nD.mono jh.size);obtain⟨⟨m0,m1,m2,m3⟩,⟨s0,s1,s2,s3,s4,s5⟩,⟨p0,p1,p2⟩,x0,x1⟩:=a3b k1 k2 k3 k4 mM;have jK:=aE.trans (mM.mono aE.size)))
     have bA:=mM;exact yjk
    ·have yL:=λX hb=>Calls.first30 (by rw[h4];decide) (j4 X hb)
     rw[h4,if_pos rfl]at hr;clear j4 h4;go_upto_region 9 with(first
      |(go_at_call 51;(with_reducible refine(yL _ fw).mono ?_);rintro e V3⟨rfl,nD⟩
        have mM:=jh.trans (nD.mono jh.size);obtain⟨⟨m0,m1,m2,m3⟩,⟨s0,s1,s2,s3,s4,s5⟩,⟨p0,p1,p2⟩,x0,x1⟩:=a3b k1 k2 k3 k4 mM;have jK:=aE.trans (mM.mono aE.size)))
     subst hr;go_wp2_with fail;have bA:=mM;refine leaves_cons (f:=47) (args:= #[.pointer (some ⟨w.heap.size+1+1+1,0,none⟩)]) vM (by simp[go_sem]) ?_;refine(d1o _ _).mono ?_;rintro e u' w9⟨rfl,rfl,rfl⟩;have y0:=(k4.below bA k4.lt).set 0 (.int .i64 0);have br:=(aE.trans (bA.mono aE.size)).setCell (p:=⟨w.heap.size+1+1+1,0,none⟩) (show w.heap.size<=w.heap.size+1+1+1 by omega) (.int .i64 0);exact yhg
theorem b7q {fn:Func}{p q:Tmp}(h:fn.results= #[.cell p ty,.cell q tz]){d e:TypeDesc}
 (hp:tmps.getD p undef= .pointer (some ⟨g,0,none⟩)) (hg:Blk w g cs t) (hu:P.underlying ty=some d) (hd:(match d with | .struct _ | .array _ _=>true|_=>false)=true) (hi:(P.info? ty).map (·.size)=some cs.size)
 (pG:tmps.getD q undef= .pointer (some ⟨i,0,none⟩)) (cf:Blk w i ds u) (Dr:P.underlying tz=some e) (dW:(match e with | .struct _ | .array _ _=>true|_=>false)=true) (sS:(P.info? tz).map (·.size)=some ds.size) :
 (results fn tmps).run P w= .ok (.tuple #[.agg cs,.agg ds]) w:=by
 have rW:tmps[p]?.getD undef= .pointer (some ⟨g,0,none⟩):=by simpa using hp
 have yN:tmps[q]?.getD undef= .pointer (some ⟨i,0,none⟩):=by simpa using pG
 simp[results,h,rW,yN,asAddr,run_loadVar_row w g t ty cs (0,0) d hg hu hd hi,run_loadVar_row w i u tz ds (0,0) e cf Dr dW sS,Result.andThen]
theorem b7r {fn:Func}{p q r:Tmp}{ta:Td}(h:fn.results= #[.cell p ty,.cell q tz,.cell r ta]){j:Nat}{v:Td}{es:Array Value}{d e f:TypeDesc}
 (hp:tmps.getD p undef= .pointer (some ⟨g,0,none⟩)) (hg:Blk w g cs t) (hu:P.underlying ty=some d) (hd:(match d with | .struct _ | .array _ _=>true|_=>false)=true) (hi:(P.info? ty).map (·.size)=some cs.size)
 (pG:tmps.getD q undef= .pointer (some ⟨i,0,none⟩)) (cf:Blk w i ds u) (Dr:P.underlying tz=some e) (dW:(match e with | .struct _ | .array _ _=>true|_=>false)=true) (sS:(P.info? tz).map (·.size)=some ds.size)
 (ph:tmps.getD r undef= .pointer (some ⟨j,0,none⟩)) (Cm:Blk w j es v) (QY:P.underlying ta=some f) (zV:(match f with | .struct _ | .array _ _=>true|_=>false)=true) (sT:(P.info? ta).map (·.size)=some es.size) :
 (results fn tmps).run P w= .ok (.tuple #[.agg cs,.agg ds,.agg es]) w:=by
 have rW:tmps[p]?.getD undef= .pointer (some ⟨g,0,none⟩):=by simpa using hp
 have yN:tmps[q]?.getD undef= .pointer (some ⟨i,0,none⟩):=by simpa using pG
 have Ji:tmps[r]?.getD undef= .pointer (some ⟨j,0,none⟩):=by simpa using ph
 simp[results,h,rW,yN,Ji,asAddr,run_loadVar_row w g t ty cs (0,0) d hg hu hd hi,run_loadVar_row w i u tz ds (0,0) e cf Dr dW sS,run_loadVar_row w j v ta es (0,0) f Cm QY zV sT,Result.andThen]
theorem Blk.at30 {b b':Nat}{c:Array Value}(h:Blk W b c t)(e:b=b'):Blk W b' c t:=e▸h
abbrev a9m :ByteArray:=⟨#[116,114,101,101]⟩
theorem d9f (id wt x y:Int)(nm:Bw)(w:Wd):
 Zc prog 70 #[.int .i64 id,.string nm,.int .i64 wt,.int .i64 x,.int .i64 y] w (.agg #[.int .i64 id,.int .i64 x,.int .i64 y,.string a9m,.string nm,.int .i64 wt,.int .i64 1]):=by
 go_enter func70,ntmps70;go_wp2_with fail;exact bodyPost_ret (results_cell_row qM _ _ _ 66 _ (0,0) _ qM (Blk.new w _ _) underlying66 qM zM) rfl ⟨rfl,zC⟩
def exL :List Pc:=[⟨1,105,105,a9m,⟨#[69,108,109]⟩,5,1⟩,⟨2,135,105,a9m,⟨#[]⟩,3,1⟩,⟨3,105,55,a9m,⟨#[79,97,107]⟩,9,1⟩,⟨4,5,5,a9m,⟨#[]⟩,1,1⟩]
def exS30 :Sh:=⟨0,0,10,40,30,2⟩
theorem d1p (w:Wd):
 Calls prog 29 #[] w λe w'=>∃B,e= .returned (.tuple #[.agg #[.slice none 0 0,.slice none 0 0,.slice none 0 0,.slice (some ⟨B,0,none⟩) 4 4],shV exS30])/\w.heap.size<=B/\Blk w' B (exL.flatMap plE.enc).toArray 66/\Below w.heap.size w w':=by
 go_enter func29,ntmps29;go_wp2_with (first
  |(go_at_call 70;(with_reducible refine(d9f _ _ _ _ _ _).mono ?_);rintro e w1⟨rfl,aw⟩;obtain⟨p1,rfl⟩:=a0c aw;clear aw))
 refine bodyPost_ret (b7q qM qM ((((Blk.new w _ 37).alloc _).grow _).alloc _ |>.alloc _) underlying37 qM zM vM ((((Blk.new (w.alloc _) _ 28).grow _).alloc _).alloc _) underlying28 qM zM) rfl ⟨_,rfl,?_,?_,zC⟩
 ·omega
 ·exact Blk.at30 ((Blk.new _ _ _).alloc _) vM
def a7d (a b c d:Int)(raw:Sh):Sh:=if a % 16=15 then raw else⟨b % 100,c % 60,4+a % 9,20+d % 41,20+c % 21,1+b % 4⟩
theorem d9g (a b c d:Int)(ha:0<=a/\a<=255)(hb:0<=b/\b<=255)(hc:0<=c/\c<=255)(hd:0<=d/\d<=255)(raw:Sh)(w:Wd):
 Zc prog 32 #[.agg #[.int .u8 a,.int .u8 b,.int .u8 c,.int .u8 d],shV raw] w (shV (a7d a b c d raw)):=by
 unfold a7d;by_cases h15:a % 16=15
 ·rw[if_pos h15]
  have QZ:(a % 16==15)=true:=by simpa using h15
  exact yhf
 ·rw[if_neg h15]
  have QZ:(a % 16==15)=false:=by simpa using h15
  exact yhf
theorem d1q (hT:TW S W)(h:SL S W 26 v n):∃ps:List a0l,ps.length=n/\Pts W.heap.size W v ps:=by
 by_cases hn:n=0
 ·subst hn
  obtain⟨a,cap,rfl,-⟩:=h.form;exact⟨[],rfl,a,cap,rfl,λj hj=>absurd hj vM⟩
 ·obtain⟨b,off,cap,rfl,-,hS⟩:=h.some_ oM
  have H:∀k:Fin n,∃p:a0l,W.cell? ⟨b,off+k.1*2,none⟩=some (.int .i64 p.1)/\W.cell? ⟨b,off+k.1*2+1,none⟩=some (.int .i64 p.2):=λk=>by
   obtain⟨u0,c0,h0⟩:=h.cell hT a1z k.2 0 .int rfl;obtain⟨u1,c1,h1⟩:=h.cell hT a1z k.2 1 .int rfl;obtain⟨x,rfl,-⟩:=h0.i rfl;obtain⟨y,rfl,-⟩:=h1.i rfl;exact⟨(x,y),c0,c1⟩
  refine⟨List.ofFn λk=>Classical.choose (H k),by simp,some ⟨b,off,none⟩,cap,by simp,λj hj=>⟨b,off,rfl,hT.lt hS,?_⟩⟩;have nh:j<n:=by simpa using hj
  have:=Classical.choose_spec (H ⟨j,nh⟩);simpa using this
theorem b4a (hT:TW S W)(h:SL S W 149 v n):∃ws:List Wy,ws.length=n/\Wys W.heap.size W v ws/\∀y∈ws,fits y.id/\y.line.length<=100:=by
 by_cases hn:n=0
 ·subst hn
  obtain⟨a,cap,rfl,-⟩:=h.form;exact⟨[],rfl,⟨a,cap,rfl,λj hj=>absurd hj vM⟩,λy hy=>absurd hy vM⟩
 ·obtain⟨b,off,cap,rfl,-,hS⟩:=h.some_ oM
  have H:∀k:Fin n,∃y:Wy,WyAt W.heap.size W b (off+k.1*8) y/\fits y.id/\y.line.length<=100:=λk=>by
   obtain⟨id,lv,m,dG,cs,ns,st,wt,ds,c0,c1,c2,c3,c4,c5,c6,c7,f0,hl,hm,-⟩:=h.way hT k.2;obtain⟨ps,eT,hP⟩:=d1q hT hl;exact⟨⟨id,ps,lv,dG,cs,ns,st,wt,ds⟩,⟨c0,c1,c2,c3,c4,c5,c6,c7,hP⟩,f0,by simp only;omega⟩
  refine⟨List.ofFn λk=>Classical.choose (H k),by simp,⟨some ⟨b,off,none⟩,cap,by simp,λj hj=>⟨b,off,rfl,hT.lt hS,?_⟩⟩,λy hy=> ?_⟩
  ·have nh:j<n:=by simpa using hj
   have:=(Classical.choose_spec (H ⟨j,nh⟩)).1;simpa using this
  ·obtain⟨j,hj,rfl⟩:=List.getElem_of_mem hy
   have nh:j<n:=by simpa using hj
   have:=(Classical.choose_spec (H ⟨j,nh⟩)).2;simpa using this
end
section
open Go Go.RowKit
def exO :List Pc:=[⟨3,105,55,a9m,⟨#[79,97,107]⟩,9,1⟩,⟨1,105,105,a9m,⟨#[69,108,109]⟩,5,1⟩,⟨2,135,105,a9m,⟨#[]⟩,3,1⟩,⟨4,5,5,a9m,⟨#[]⟩,1,1⟩]
theorem b4b :a0q exL=exO:=by kernel_rfl
def exPl :Pn:=a2n exS30 [] exO
theorem b7s :exPl.left=[⟨2,3,1⟩,⟨4,0,0⟩]:=by decide +kernel
theorem d1r :exPl.keys=[⟨3,3,⟨#[32,21,1,5]⟩⟩,⟨1,1,⟨#[32,17,7,13]⟩⟩]:=by decide +kernel
theorem b0n :exPl.dots.length=17:=by decide +kernel
theorem d5z :exPl.dots.find? (atD 10 10)=some ⟨10,10,3,1⟩:=by decide +kernel
theorem d6a :exPl.dots.find? (atD 9 9)=none:=by decide +kernel
def c0q :Pn:=⟨exPl.dots.take 16,exPl.keys,exPl.left⟩
def b7t :Pn:=⟨exPl.dots,exPl.keys,[⟨2,3,3⟩,⟨4,0,0⟩]⟩
theorem d6b :c0i exPl exPl=true:=by decide +kernel
theorem d6c :c0i exPl c0q=false:=by decide +kernel
theorem d9h :a8w exS30.g (pfS exS30) a2s exPl (wdF exS30 []) exO=0:=by decide +kernel
theorem d9i :a8w exS30.g (pfS exS30) a2s c0q (wdF exS30 []) exO=42:=by decide +kernel
theorem d9j :a8w exS30.g (pfS exS30) a2s b7t (wdF exS30 []) exO=42:=by decide +kernel
theorem d6d :exO.map Pc.id=[3,1,2,4]:=rfl
end
section
open Go Go.RowKit Go.Shelf Go.Lib
theorem d1s (va vb:Vu)(a:List Int)(w:Wd)(ha:Lst inE w.heap.size w va a)(hb:Lst inE w.heap.size w vb a)(hl:a.length<=100000) :
 Zc prog 13 #[va,vb] w (.bool true):=by
 obtain⟨aa,ac,rfl,-⟩:=ha.form;obtain⟨ba,bc,rfl,-⟩:=hb.form;go_enter func13,ntmps13;go_wp2_with fail;go_loopw [5] (λi wr=>∃k:Nat,k<=a.length/\i= .int .i64 k/\Below w.heap.size w wr) (λi _=>a.length-(intOf i).toNat)
 case atStart=>exact⟨0,Nat.zero_le _,rfl,zR _ _⟩
 case round =>
  obtain⟨k,hk,rfl,hB⟩:=hrel;have bu:=hB.size;have Q0:=ha.up hB;have gW:=hb.up hB;by_cases ag:k<a.length
  ·have aA:(k:Int)<(a.length:Int):=oM
   obtain⟨b1,o1,yO,iI,-,-,cj⟩:=Q0.some_ oM;simp only[Value.slice.injEq,true_and]at iI;obtain⟨rfl,rfl⟩:=iI;obtain⟨b2,o2,ke,ew,-,-,bK⟩:=gW.some_ oM;simp only[Value.slice.injEq,true_and]at ew;obtain⟨rfl,rfl⟩:=ew;obtain⟨d,hd⟩:=zE (a[k]);have h1:=cj k ag 0 (show 0<1 by decide);have h2:=bK k ag 0 (show 0<1 by decide);rw[hd]at h1 h2;have c1:wr.cell? ⟨b1,o1+k,none⟩=some (.int .i64 d):=by simpa[inE]using h1
   have c2:wr.cell? ⟨b2,o2+k,none⟩=some (.int .i64 d):=by simpa[inE]using h2
   clear h1 h2 cj bK hd;go_wp2_with fail;refine zR0 λp=> ?_
   go_wp2_with fail;go_roundw
   case rel=>exact⟨k+1,oM,by go_num,zC⟩
   case measure=>exact yaz
  ·obtain rfl:k=a.length:=oM
   have aY:¬(a.length:Int)<(a.length:Int):=oM;exact yko
theorem a7e {α:Type}{E:El α}(hE:E.Ok){W:Wd}{base B:Nat}{l:List α}(h:Blk W B (l.flatMap E.enc).toArray E.t)(hb:base<=B)(hl:l.length<=1000000):W.ownsRow base E.t E.s (.slice (some ⟨B,0,none⟩) l.length l.length) l.length (l.flatMap E.enc):=by
 refine⟨a0w hE l,.inr ⟨B,l.length,(l.flatMap E.enc).toArray,rfl,hb,h,yR _,by unfold maxLen;omega,by simp[a0w hE l],?_⟩⟩;rw[<-a0w hE l];exact List.take_length
theorem PlanIn.up {W W':Wd}{v:Vu}{p:Pn}(h:PlanIn W v p)(hb:Below W.heap.size W W'):PlanIn W' v p:=by
 obtain⟨dv,kv,lv,rfl,⟨h1,h2⟩,⟨h3,h4⟩,h5,h6⟩:=h.ex;exact⟨dv,kv,lv,rfl,⟨h1.up hb,h2⟩,⟨h3.up hb,h4⟩,h5.up hb,h6⟩
theorem e1k (p1 k1 i1:Int)(p2 k2 i2:Int)(w:Wd):(binOp .eql 68 (.agg #[.int .i64 p1,.int .i64 k1,.int .i64 i1]) (.agg #[.int .i64 p2,.int .i64 k2,.int .i64 i2])).run prog w= .ok (.bool (decide ((⟨p1,k1,i1⟩:Lf)=⟨p2,k2,i2⟩))) w:=by
 have u3:=underlying3;have a3:=isAgg3;have z3:=sizeOf3;have hS:prog.underlying 68=some (.struct (prog.fieldsOf 68)):=by kernel_rfl
 have hp:prog.stoodInHeld 68=false:=by kernel_rfl
 rw[run_eql_struct,show(10000:Nat)=9999+1 from rfl,run_equalIn_agg w 9999 68 _ _ hS hp];simp only[Program.fieldsOf,underlying68];go_simp;by_cases h1:p1=p2 <;> by_cases h2:k1=k2 <;> by_cases h3:i1=i2 <;> simp[h1,h2,h3]
structure San (n1 B b3:Nat)(da ka la:Option Addr)(dc kc lc:Nat)(W:Wd):Prop where
 m:Blk W n1 #[.slice none 0 0,.slice none 0 0,.slice none 0 0,.slice (some ⟨B,0,none⟩) 4 4] 37
 s:Blk W (n1+1) #[.int .i64 exS30.ax,.int .i64 exS30.ay,.int .i64 exS30.st,.int .i64 exS30.w,.int .i64 exS30.h,.int .i64 exS30.g] 28
 p:Blk W b3 #[.slice da 17 dc,.slice ka 2 kc,.slice la 2 lc] 45
 L:Lst plE W.heap.size W (.slice (some ⟨B,0,none⟩) 4 4) exL
 P:PlanIn W (a1t (.slice da 17 dc) (.slice ka 2 kc) (.slice la 2 lc)) exPl
theorem San.up {n1 B b3:Nat}{da ka la:Option Addr}{dc kc lc:Nat}{W W':Wd}(h:San n1 B b3 da ka la dc kc lc W)(hb:Below W.heap.size W W'):San n1 B b3 da ka la dc kc lc W' :=
 ⟨h.m.below hb h.m.lt,h.s.below hb h.s.lt,h.p.below hb h.p.lt,h.L.up hb,h.P.up hb⟩
theorem San.cells {n1 B b3:Nat}{da ka la:Option Addr}{dc kc lc:Nat}{W:Wd}(h:San n1 B b3 da ka la dc kc lc W):(W.cell? ⟨n1,0,none⟩=some (.slice none 0 0)/\W.cell? ⟨n1,1,none⟩=some (.slice none 0 0)/\W.cell? ⟨n1,2,none⟩=some (.slice none 0 0)/\W.cell? ⟨n1,3,none⟩=some (.slice (some ⟨B,0,none⟩) 4 4))/\(W.cell? ⟨n1+1,0,none⟩=some (.int .i64 exS30.ax)/\W.cell? ⟨n1+1,1,none⟩=some (.int .i64 exS30.ay)/\W.cell? ⟨n1+1,2,none⟩=some (.int .i64 exS30.st)/\W.cell? ⟨n1+1,3,none⟩=some (.int .i64 exS30.w)/\W.cell? ⟨n1+1,4,none⟩=some (.int .i64 exS30.h)/\W.cell? ⟨n1+1,5,none⟩=some (.int .i64 exS30.g))/\(W.cell? ⟨b3,0,none⟩=some (.slice da 17 dc)/\W.cell? ⟨b3,1,none⟩=some (.slice ka 2 kc)/\W.cell? ⟨b3,2,none⟩=some (.slice la 2 lc)) :=
 ⟨⟨h.m.cell 0,h.m.cell 1,h.m.cell 2,h.m.cell 3⟩,⟨h.s.cell 0,h.s.cell 1,h.s.cell 2,h.s.cell 3,h.s.cell 4,h.s.cell 5⟩,⟨h.p.cell 0,h.p.cell 1,h.p.cell 2⟩⟩
theorem d6e (X:Wd)(v:Vu)(h:Lst inE X.heap.size X v [3,1,2,4]):Calls prog 13 #[v,.slice (some ⟨X.heap.size,0,none⟩) 4 4] (X.alloc (.cells #[.int .i64 3,.int .i64 1,.int .i64 2,.int .i64 4] 3)) λe w'=>e= .returned (.bool true)/\Below X.heap.size X w':=by
 have hb:Below X.heap.size X (X.alloc (.cells #[.int .i64 3,.int .i64 1,.int .i64 2,.int .i64 4] 3)):=(zR _ _).alloc (yR _) _;refine(d1s v (.slice (some ⟨X.heap.size,0,none⟩) 4 4) [3,1,2,4] _ (h.up hb) (a0d c0j (l:=[3,1,2,4]) (a7e c0j (l:=[3,1,2,4]) (Blk.new X _ _) (yR _) jM) jM) jM).mono ?_;rintro e w'⟨rfl,h2⟩;exact⟨rfl,hb.trans (h2.mono hb.size)⟩
theorem San.parts {n1 B b3:Nat}{da ka la:Option Addr}{dc kc lc:Nat}{W:Wd}(h:San n1 B b3 da ka la dc kc lc W):(Lst dtE W.heap.size W (.slice da 17 dc) exPl.dots/\Frm (.slice da 17 dc) exPl.dots.length)/\(Lst keE W.heap.size W (.slice ka 2 kc) exPl.keys/\Frm (.slice ka 2 kc) exPl.keys.length)/\Lst lfE W.heap.size W (.slice la 2 lc) exPl.left/\Frm (.slice la 2 lc) exPl.left.length:=by
 obtain⟨dv,kv,lv,kn,h1,h2,h3⟩:=h.P.ex;simp only[Value.agg.injEq,Array.mk.injEq,List.cons.injEq,and_true]at kn;obtain⟨rfl,rfl,rfl⟩:=kn;exact⟨h1,h2,h3⟩
theorem e2y {n1 B b3:Nat}{da ka la:Option Addr}{dc kc lc:Nat}{W:Wd}(h:San n1 B b3 da ka la dc kc lc W):Zc prog 16 #[shV exS30,a1t (.slice da 17 dc) (.slice ka 2 kc) (.slice la 2 lc),.int .i64 10,.int .i64 10] W (.tuple #[.int .i64 3,.int .i64 1]):=by
 have h1:=c5z exS30 (.slice da 17 dc) (.slice ka 2 kc) (.slice la 2 lc) exPl.dots 10 10 W h.parts.1.1 h.parts.1.2;rw[d5z]at h1;exact h1
theorem e2z {n1 B b3:Nat}{da ka la:Option Addr}{dc kc lc:Nat}{W:Wd}(h:San n1 B b3 da ka la dc kc lc W):Zc prog 16 #[shV exS30,a1t (.slice da 17 dc) (.slice ka 2 kc) (.slice la 2 lc),.int .i64 9,.int .i64 9] W (.tuple #[.int .i64 0,.int .i64 0]):=by
 have h1:=c5z exS30 (.slice da 17 dc) (.slice ka 2 kc) (.slice la 2 lc) exPl.dots 9 9 W h.parts.1.1 h.parts.1.2;rw[d6a]at h1;exact h1
theorem d9k :a2n exS30 [] (a0q exL)=exPl:=by rw[b4b];rfl
theorem a9n :a1h exS30=0:=by decide +kernel
theorem d6f :∀p∈exL,PcOk p/\p.cls.size<=1000:=by
 intro p hp;simp only[exL,List.mem_cons,List.not_mem_nil,or_false]at hp;rcases hp with rfl|rfl|rfl|rfl
 all_goals exact⟨⟨jM,jM,jM,jM,jM⟩,jM⟩
theorem d9l :∀d∈exPl.dots,Sm d:=c3n (a4l a9n) [] exO
theorem d7k :∀x∈exPl.left,fits x.i:=by
 rw[b7s];intro x hx;simp only[List.mem_cons,List.not_mem_nil,or_false]at hx;rcases hx with rfl|rfl
 all_goals decide
theorem c8b {α:Type}{E:El α}{n0:Nat}{W:Wd}{a:Option Addr}{n m c k:Nat}{l:List α}(h:Lst E n0 W (.slice a n c) l)(hk:k<=l.length)(hm:(l.take k).length=m):Lst E n0 W (.slice a m c) (l.take k):=by
 obtain⟨a',c',e,h1,h2,h3⟩:=h;simp only[Value.slice.injEq]at e;obtain⟨rfl,-,rfl⟩:=e;have ag:(l.take k).length<=l.length:=by rw[List.length_take];omega
 refine⟨a,c,by rw[hm],oM,oM,λj hj=> ?_⟩;obtain⟨b,off,h4,h5,h6⟩:=h3 j oM;exact⟨b,off,h4,h5,λi hi=>by rw[List.getElem_take];exact h6 i hi⟩
theorem c8c {α:Type}{a:Option Addr}{n m c k:Nat}{l:List α}(h:Frm (.slice a n c) l.length)(hn:n≠0)(hm:(l.take k).length=m):Frm (.slice a m c) (l.take k).length:=by
 rcases h with h|⟨b,o,c',h⟩
 ·simp only[Value.slice.injEq]at h
  exact absurd h.2.1 hn
 ·simp only[Value.slice.injEq]at h
  obtain⟨rfl,-,rfl⟩:=h;exact .inr ⟨b,o,c,by rw[hm]⟩
structure San2 (n1 B b3 BL:Nat)(da ka la:Option Addr)(dc kc lc:Nat)(W:Wd):Prop where
 b:San n1 B b3 da ka la dc kc lc W
 l:Blk W BL #[.slice da 16 dc,.slice ka 2 kc,.slice la 2 lc] 45
 o:Blk W (BL+1) #[.slice da 17 dc,.slice ka 2 kc,.slice (some ⟨BL+1+1,0,none⟩) 2 2] 45
 pl:PlanIn W (a1t (.slice da 16 dc) (.slice ka 2 kc) (.slice la 2 lc)) c0q
 po:PlanIn W (a1t (.slice da 17 dc) (.slice ka 2 kc) (.slice (some ⟨BL+1+1,0,none⟩) 2 2)) b7t
section
variable {n1 B b3 BL:Nat}{da ka la:Option Addr}{dc kc lc:Nat}{W W':Wd}
theorem San2.up (h:San2 n1 B b3 BL da ka la dc kc lc W)(hb:Below W.heap.size W W'):San2 n1 B b3 BL da ka la dc kc lc W' :=
 ⟨h.b.up hb,h.l.below hb h.l.lt,h.o.below hb h.o.lt,h.pl.up hb,h.po.up hb⟩
theorem San2.cells (h:San2 n1 B b3 BL da ka la dc kc lc W):(W.cell? ⟨BL,0,none⟩=some (.slice da 16 dc)/\W.cell? ⟨BL,1,none⟩=some (.slice ka 2 kc)/\W.cell? ⟨BL,2,none⟩=some (.slice la 2 lc))/\(W.cell? ⟨BL+1,0,none⟩=some (.slice da 17 dc)/\W.cell? ⟨BL+1,1,none⟩=some (.slice ka 2 kc)/\W.cell? ⟨BL+1,2,none⟩=some (.slice (some ⟨BL+1+1,0,none⟩) 2 2)) :=
 ⟨⟨h.l.cell 0,h.l.cell 1,h.l.cell 2⟩,⟨h.o.cell 0,h.o.cell 1,h.o.cell 2⟩⟩
theorem e1l (h:San2 n1 B b3 BL da ka la dc kc lc W):Zc prog 21 #[a1t (.slice da 17 dc) (.slice ka 2 kc) (.slice la 2 lc),a1t (.slice da 17 dc) (.slice ka 2 kc) (.slice la 2 lc)] W (.bool true):=by
 have h1:=b0l _ _ exPl exPl W h.b.P h.b.P;rw[d6b]at h1;exact h1
theorem e1m (h:San2 n1 B b3 BL da ka la dc kc lc W):Zc prog 21 #[a1t (.slice da 17 dc) (.slice ka 2 kc) (.slice la 2 lc),a1t (.slice da 16 dc) (.slice ka 2 kc) (.slice la 2 lc)] W (.bool false):=by
 have h1:=b0l _ _ exPl c0q W h.b.P h.pl;rw[d6c]at h1;exact h1
theorem d1t (W:Wd):Wys W.heap.size W (.slice none 0 0) []:=⟨none,0,rfl,λj hj=>absurd hj vM⟩
theorem e3a (h:San2 n1 B b3 BL da ka la dc kc lc W)(hPow:∀W',Below W.heap.size W W'->Pow W'):Zc prog 19 #[b3t (.slice none 0 0) (.slice none 0 0) (.slice none 0 0) (.slice (some ⟨B,0,none⟩) 4 4),shV exS30,a1t (.slice da 17 dc) (.slice ka 2 kc) (.slice la 2 lc)] W (.int .i64 0) :=
 a6e exS30 jM jM a9n (.slice none 0 0) (.slice none 0 0) (.slice none 0 0) (.slice (some ⟨B,0,none⟩) 4 4) _ exL [] exPl W h.b.L (.inr ⟨_,_,_,rfl⟩) jM d6f (d1t _) vM vM vM hPow h.b.P d9l (by rw[b0n];decide) d7k 0 (by rw[b4b];exact d9h)
theorem e3b (h:San2 n1 B b3 BL da ka la dc kc lc W)(hPow:∀W',Below W.heap.size W W'->Pow W'):Zc prog 19 #[b3t (.slice none 0 0) (.slice none 0 0) (.slice none 0 0) (.slice (some ⟨B,0,none⟩) 4 4),shV exS30,a1t (.slice da 16 dc) (.slice ka 2 kc) (.slice la 2 lc)] W (.int .i64 42) :=
 a6e exS30 jM jM a9n (.slice none 0 0) (.slice none 0 0) (.slice none 0 0) (.slice (some ⟨B,0,none⟩) 4 4) _ exL [] c0q W h.b.L (.inr ⟨_,_,_,rfl⟩) jM d6f (d1t _) vM vM vM hPow h.pl (λd hd=>d9l d (List.mem_of_mem_take hd)) (Nat.le_trans (List.length_take_le 16 exPl.dots) jM) d7k 42 (by rw[b4b];exact d9i)
theorem e3c (h:San2 n1 B b3 BL da ka la dc kc lc W)(hPow:∀W',Below W.heap.size W W'->Pow W'):Zc prog 19 #[b3t (.slice none 0 0) (.slice none 0 0) (.slice none 0 0) (.slice (some ⟨B,0,none⟩) 4 4),shV exS30,a1t (.slice da 17 dc) (.slice ka 2 kc) (.slice (some ⟨BL+1+1,0,none⟩) 2 2)] W (.int .i64 42) :=
 a6e exS30 jM jM a9n (.slice none 0 0) (.slice none 0 0) (.slice none 0 0) (.slice (some ⟨B,0,none⟩) 4 4) _ exL [] b7t W h.b.L (.inr ⟨_,_,_,rfl⟩) jM d6f (d1t _) vM vM vM hPow h.po d9l (by show exPl.dots.length<=10000;rw[b0n];decide) (by
  intro x hx;simp only[b7t,List.mem_cons,List.not_mem_nil,or_false]at hx;rcases hx with rfl|rfl
  all_goals decide) 42 (by rw[b4b];exact d9j)
end
theorem d6g (w:Wd)(hPow:∀W,Below w.heap.size w W->Pow W):Zc prog 8 #[] w (.bool true):=by
 go_enter func8,ntmps8;go_upto_region 2 with(first
  |(go_at_call 29;refine(d1p _).mono ?_;rintro e w1⟨B,rfl,hB,kB,aw⟩))
 have km:=(Blk.new w1 #[.slice none 0 0,.slice none 0 0,.slice none 0 0,.slice (some ⟨B,0,none⟩) 4 4] 37).alloc (.cells #[.int .i64 exS30.ax,.int .i64 exS30.ay,.int .i64 exS30.st,.int .i64 exS30.w,.int .i64 exS30.h,.int .i64 exS30.g] 28);have ks:=Blk.new (w1.alloc (.cells #[.slice none 0 0,.slice none 0 0,.slice none 0 0,.slice (some ⟨B,0,none⟩) 4 4] 37)) #[.int .i64 exS30.ax,.int .i64 exS30.ay,.int .i64 exS30.st,.int .i64 exS30.w,.int .i64 exS30.h,.int .i64 exS30.g] 28;obtain⟨W2,bV⟩:=zE ((w1.alloc (.cells #[.slice none 0 0,.slice none 0 0,.slice none 0 0,.slice (some ⟨B,0,none⟩) 4 4] 37)).alloc (.cells #[.int .i64 exS30.ax,.int .i64 exS30.ay,.int .i64 exS30.st,.int .i64 exS30.w,.int .i64 exS30.h,.int .i64 exS30.g] 28));have dK:Below w1.heap.size w1 W2:=by rw[<-bV];exact((zR _ _).alloc (yR _) _).alloc vM _
 simp only[World.size_alloc]at ks;rw[bV]at km ks ⊢;clear bV;have dT:=aw.trans (dK.mono aw.size);have vn:Lst plE W2.heap.size W2 (.slice (some ⟨B,0,none⟩) 4 4) exL:=a0d a4f (a7e a4f (kB.below dK kB.lt) (yR B) jM) jM;obtain⟨n1,eP⟩:=zE w1.heap.size;rw[eP]at km ks ⊢;have DT:w.heap.size<=n1:=by have:=aw.size;omega
 clear eP dK aw kB hB;have gq:∀W:World,Wys W.heap.size W (.slice none 0 0) []:=λW=>⟨none,0,rfl,λj hj=>absurd hj vM⟩
 have sq:=c7o exS30 jM jM a9n (.slice none 0 0) (.slice none 0 0) (.slice none 0 0) (.slice (some ⟨B,0,none⟩) 4 4) exL [] W2 vn (.inr ⟨_,_,_,rfl⟩) jM d6f (gq _) vM vM vM (λW h=>hPow W (dT.trans (h.mono dT.size)));rw[d9k]at sq;obtain⟨m0,m1,m2,m3⟩:=zN4 km;obtain⟨s0,s1,s2,s3,s4,s5⟩:=zN6 ks;go_upto_region 3 with(first
  |(go_at_call 10;(with_reducible refine sq.mono ?_);rintro e w3⟨v,rfl,hP,aV⟩
    obtain⟨dv,kv,lv,rfl,⟨hd,mo⟩,⟨hk,DX⟩,hl,cZ⟩:=hP.ex;obtain⟨da,dc,e1,vP⟩:=hd.form;obtain⟨ka,kc,e2,-⟩:=hk.form;obtain⟨la,lc,e3,-⟩:=hl.form;rw[b0n]at e1 vP;rw[d1r]at e2;rw[b7s]at e3;subst e1 e2 e3))
 clear sq m0 m1 m2 m3 s0 s1 s2 s3 s4 s5 hd mo hk DX hl cZ;have jL:Below w3.heap.size w3 (w3.alloc (.cells #[.slice da 17 dc,.slice ka 2 kc,.slice la 2 lc] 45)):=(zR _ _).alloc (yR _) _;have dF:=aV.trans (jL.mono aV.size);have AL:San n1 B w3.heap.size da ka la dc kc lc (w3.alloc (.cells #[.slice da 17 dc,.slice ka 2 kc,.slice la 2 lc] 45)):=⟨km.below dF km.lt,ks.below dF ks.lt,Blk.new _ _ _,vn.up dF,hP.up jL⟩;have jK:=dT.trans (dF.mono dT.size);obtain⟨W4,cQ⟩:=zE (w3.alloc (.cells #[.slice da 17 dc,.slice ka 2 kc,.slice la 2 lc] 45));obtain⟨b3,yP⟩:=zE w3.heap.size;rw[cQ]at AL jK;rw[cQ];rw[yP]at AL;rw[yP];clear cQ yP jL dF hP aV km ks vn dT;obtain⟨⟨m0,m1,m2,m3⟩,-,⟨p0,p1,p2⟩⟩:=AL.cells;have hOr:=d1e (.slice none 0 0) (.slice none 0 0) (.slice none 0 0) (.slice (some ⟨B,0,none⟩) 4 4) exL W4 AL.L (.inr ⟨_,_,_,rfl⟩) jM;rw[b4b,d6d]at hOr;go_upto_region 5 with(first
  |(go_at_call 14;(with_reducible refine hOr.mono ?_);rintro e w5⟨v5,rfl,MQ,-,aZ⟩)
  |(go_at_call 13;(with_reducible refine(d6e _ _ MQ).mono ?_);rintro e w6⟨rfl,iT⟩))
 have AM:=(AL.up aZ).up iT;have lu:=(jK.trans (aZ.mono jK.size)).trans (iT.mono (Nat.le_trans jK.size aZ.size));clear hOr m0 m1 m2 m3 p0 p1 p2 MQ aZ iT AL jK;obtain⟨-,-,⟨p0,p1,p2⟩⟩:=AM.cells;obtain⟨dv,kv,lv,kn,-,⟨hk,-⟩,hl,-⟩:=AM.P.ex;simp only[Value.agg.injEq,Array.mk.injEq,List.cons.injEq,and_true]at kn;obtain⟨rfl,rfl,rfl⟩:=kn;rw[d1r]at hk;rw[b7s]at hl;obtain⟨kb,ko,UJ,iI,-,-,ju⟩:=hk.some_ jM;obtain⟨lb,lo,D0,ew,-,-,eU⟩:=hl.some_ jM;simp only[Value.slice.injEq]at iI ew;obtain⟨rfl,-,rfl⟩:=iI;obtain⟨rfl,-,rfl⟩:=ew;obtain⟨l0,l1,l2,l3,l4,l5⟩:w6.cell? ⟨lb,lo,none⟩=some (.int .i64 2)/\w6.cell? ⟨lb,lo+1,none⟩=some (.int .i64 3)/\w6.cell? ⟨lb,lo+2,none⟩=some (.int .i64 1)/\w6.cell? ⟨lb,lo+3,none⟩=some (.int .i64 4)/\w6.cell? ⟨lb,lo+3+1,none⟩=some (.int .i64 0)/\w6.cell? ⟨lb,lo+3+2,none⟩=some (.int .i64 0):=⟨eU 0 jM 0 (show 0<3 by decide),eU 0 jM 1 (show 1<3 by decide),eU 0 jM 2 (show 2<3 by decide),eU 1 jM 0 (show 0<3 by decide),eU 1 jM 1 (show 1<3 by decide),eU 1 jM 2 (show 2<3 by decide)⟩;obtain⟨k0,k1,k2,k3,k4,k5⟩:w6.cell? ⟨kb,ko,none⟩=some (.int .i64 3)/\w6.cell? ⟨kb,ko+1,none⟩=some (.int .i64 3)/\w6.cell? ⟨kb,ko+2,none⟩=some (.string ⟨#[32,21,1,5]⟩)/\w6.cell? ⟨kb,ko+3,none⟩=some (.int .i64 1)/\w6.cell? ⟨kb,ko+3+1,none⟩=some (.int .i64 1)/\w6.cell? ⟨kb,ko+3+2,none⟩=some (.string ⟨#[32,17,7,13]⟩):=⟨ju 0 jM 0 (show 0<3 by decide),ju 0 jM 1 (show 1<3 by decide),ju 0 jM 2 (show 2<3 by decide),ju 1 jM 0 (show 0<3 by decide),ju 1 jM 1 (show 1<3 by decide),ju 1 jM 2 (show 2<3 by decide)⟩;have nC:=λw=>e1k 2 3 1 2 3 1 w
 have pZ:=λw=>e1k 4 0 0 4 0 0 w
 clear ju eU hk hl;go_upto_region 6 with fail;clear p0 p1 p2 l0 l1 l2 l3 l4 l5 k0 k1 k2 k3 k4 k5 nC pZ;have c6:=AM.cells;obtain⟨-,⟨s0,s1,s2,s3,s4,s5⟩,⟨p0,p1,p2⟩⟩:=c6;go_upto_region 8 with(first
  |(go_at_call 16;(with_reducible refine(e2y AM).mono ?_);rintro e w7⟨rfl,eV⟩;have FZ:=AM.up eV;have c7:=FZ.cells;obtain⟨-,⟨s0,s1,s2,s3,s4,s5⟩,⟨p0,p1,p2⟩⟩:=c7)
  |(go_at_call 16;(with_reducible refine(e2z FZ).mono ?_);rintro e w8⟨rfl,bf⟩;have F0:=FZ.up bf))
 have yQ:=(lu.trans (eV.mono lu.size)).trans (bf.mono (Nat.le_trans lu.size eV.size));clear s0 s1 s2 s3 s4 s5 p0 p1 p2 AM FZ eV bf lu;obtain⟨-,-,⟨p0,p1,p2⟩⟩:=F0.cells;have hl:=F0.parts.2.2.1;rw[b7s]at hl;obtain⟨UK,OQ,D0,ew,-,-,eU⟩:=hl.some_ jM;simp only[Value.slice.injEq,Option.some.injEq,Addr.mk.injEq,and_true]at ew;obtain⟨⟨rfl,rfl⟩,-,rfl⟩:=ew;obtain⟨l3,l4,l5⟩:w8.cell? ⟨lb,lo+3,none⟩=some (.int .i64 4)/\w8.cell? ⟨lb,lo+3+1,none⟩=some (.int .i64 0)/\w8.cell? ⟨lb,lo+3+2,none⟩=some (.int .i64 0):=⟨eU 1 jM 0 (show 0<3 by decide),eU 1 jM 1 (show 1<3 by decide),eU 1 jM 2 (show 2<3 by decide)⟩;have pH:(16:Int)<=(dc:Int):=oM;clear eU hl;go_upto_region 12 with fail;have um:Below w8.heap.size w8 (((w8.alloc (.cells #[.slice da 16 dc,.slice (some ⟨kb,ko,none⟩) 2 kc,.slice (some ⟨lb,lo,none⟩) 2 lc] 45)).alloc (.cells #[.slice da 17 dc,.slice (some ⟨kb,ko,none⟩) 2 kc,.slice (some ⟨w8.heap.size+1+1,0,none⟩) 2 2] 45)).alloc (.cells #[.int .i64 2,.int .i64 3,.int .i64 3,.int .i64 4,.int .i64 0,.int .i64 0] 68)):=(((zR _ _).alloc (yR _) _).alloc vM _).alloc uM _;have kL:=((Blk.new w8 #[.slice da 16 dc,.slice (some ⟨kb,ko,none⟩) 2 kc,.slice (some ⟨lb,lo,none⟩) 2 lc] 45).alloc (.cells #[.slice da 17 dc,.slice (some ⟨kb,ko,none⟩) 2 kc,.slice (some ⟨w8.heap.size+1+1,0,none⟩) 2 2] 45)).alloc (.cells #[.int .i64 2,.int .i64 3,.int .i64 3,.int .i64 4,.int .i64 0,.int .i64 0] 68);have kO:=(Blk.new (w8.alloc (.cells #[.slice da 16 dc,.slice (some ⟨kb,ko,none⟩) 2 kc,.slice (some ⟨lb,lo,none⟩) 2 lc] 45)) #[.slice da 17 dc,.slice (some ⟨kb,ko,none⟩) 2 kc,.slice (some ⟨w8.heap.size+1+1,0,none⟩) 2 2] 45).alloc (.cells #[.int .i64 2,.int .i64 3,.int .i64 3,.int .i64 4,.int .i64 0,.int .i64 0] 68);have kA:=Blk.new ((w8.alloc (.cells #[.slice da 16 dc,.slice (some ⟨kb,ko,none⟩) 2 kc,.slice (some ⟨lb,lo,none⟩) 2 lc] 45)).alloc (.cells #[.slice da 17 dc,.slice (some ⟨kb,ko,none⟩) 2 kc,.slice (some ⟨w8.heap.size+1+1,0,none⟩) 2 2] 45)) #[.int .i64 2,.int .i64 3,.int .i64 3,.int .i64 4,.int .i64 0,.int .i64 0] 68;simp only[World.size_alloc]at kO kA;obtain⟨W9,fP⟩:=zE (((w8.alloc (.cells #[.slice da 16 dc,.slice (some ⟨kb,ko,none⟩) 2 kc,.slice (some ⟨lb,lo,none⟩) 2 lc] 45)).alloc (.cells #[.slice da 17 dc,.slice (some ⟨kb,ko,none⟩) 2 kc,.slice (some ⟨w8.heap.size+1+1,0,none⟩) 2 2] 45)).alloc (.cells #[.int .i64 2,.int .i64 3,.int .i64 3,.int .i64 4,.int .i64 0,.int .i64 0] 68));rw[fP]at um kL kO kA ⊢;have oV:=yQ.trans (um.mono yQ.size);have rU:=F0.up um;obtain⟨BL,xQ⟩:=zE w8.heap.size;rw[xQ]at kL kO kA ⊢;clear fP xQ um F0 yQ p0 p1 p2 l3 l4 l5;have iS:=rU.parts;have D2:San2 n1 B b3 BL da (some ⟨kb,ko,none⟩) (some ⟨lb,lo,none⟩) dc kc lc W9 :=
  ⟨rU,kL,kO,⟨_,_,_,rfl,⟨c8b (k:=16) iS.1.1 (by rw[b0n];decide) (by rw[List.length_take,b0n];rfl),c8c iS.1.2 jM (by rw[List.length_take,b0n];rfl)⟩,iS.2.1,iS.2.2⟩,
   ⟨_,_,_,rfl,iS.1,iS.2.1,a0d a9w (l:=[⟨2,3,3⟩,⟨4,0,0⟩]) (a7e a9w (l:=[⟨2,3,3⟩,⟨4,0,0⟩]) kA (yR _) jM) jM,.inr ⟨_,_,_,rfl⟩⟩⟩
 clear iS kL kO kA rU;obtain⟨-,-,⟨p0,p1,p2⟩⟩:=D2.b.cells;obtain⟨⟨q0,q1,q2⟩,-⟩:=D2.cells;go_upto_region 13 with(first
  |(go_at_call 21;(with_reducible refine(e1l D2).mono ?_);rintro e gh⟨rfl,dt⟩;have rm:=D2.up dt;have yu:=rm.b.cells;have d10:=rm.cells;obtain⟨-,-,⟨p0,p1,p2⟩⟩:=yu;obtain⟨⟨q0,q1,q2⟩,-⟩:=d10)
  |(go_at_call 21;(with_reducible refine(e1m rm).mono ?_);rintro e nQ⟨rfl,fG⟩))
 have nT:=rm.up fG;have nJ:=(oV.trans (dt.mono oV.size)).trans (fG.mono (Nat.le_trans oV.size dt.size));clear p0 p1 p2 q0 q1 q2 D2 rm dt fG oV;obtain⟨⟨m0,m1,m2,m3⟩,⟨t0,t1,t2,t3,t4,t5⟩,⟨p0,p1,p2⟩⟩:=nT.b.cells;have iZ:∀W,Below nQ.heap.size nQ W->Pow W:=λW h=>hPow W (nJ.trans (h.mono nJ.size))
 go_wp2_with (first
  |(go_at_call 19;(with_reducible refine(e3a nT iZ).mono ?_);rintro e Fb⟨rfl,dK⟩;have uo:=nT.up dK;have D3:∀W,Below Fb.heap.size Fb W->Pow W:=λW h=>iZ W (dK.trans (h.mono dK.size));have D4:=uo.b.cells;have d12:=uo.cells;obtain⟨⟨m0,m1,m2,m3⟩,⟨t0,t1,t2,t3,t4,t5⟩,-⟩:=D4;obtain⟨⟨q0,q1,q2⟩,-⟩:=d12)
  |(go_at_call 19;(with_reducible refine(e3b uo D3).mono ?_);rintro e MR⟨rfl,eN⟩;have yT:=uo.up eN;have Jj:∀W,Below MR.heap.size MR W->Pow W:=λW h=>D3 W (eN.trans (h.mono eN.size));have D5:=yT.b.cells;have d13:=yT.cells;obtain⟨⟨m0,m1,m2,m3⟩,⟨t0,t1,t2,t3,t4,t5⟩,-⟩:=D5;obtain⟨-,⟨q0,q1,q2⟩⟩:=d13)
  |(go_at_call 19;(with_reducible refine(e3c yT Jj).mono ?_);rintro e UL⟨rfl,Jk⟩))
 go_ret;exact⟨rfl,nJ.trans ((dK.trans ((eN.trans (Jk.mono eN.size)).mono dK.size)).mono nJ.size)⟩
end
section
open Go Go.RowKit Go.Shelf
theorem d6h {W:Wd}{base kR:Nat}{e:Td}{s:Nat}{v:Vu}{n:Nat}{xs:List Value}(h:W.ownsRow base e s v n xs)(hb:kR<=base):W.ownsRow kR e s v n xs:=by
 exact yin
def a8l (l:List Pc):Nat:=l.countP (λp=>decide (p.nm.size≠0))
structure OddR (ne nf nw:Nat)(l:List Pc)(ne' nf' nw':Nat)(l':List Pc):Prop where
 e:ne'<=ne+1
 f:nf'<=nf+1
 w:nw'<=nw+1
 p:l'.length<=l.length+82
 n:a8l l'<=a8l l+1
 ok:(∀p∈l,PcOk p)->∀p∈l',PcOk p
 cl:(∀p∈l,p.cls.size<=1000)->∀p∈l',p.cls.size<=1000
theorem OddR.refl (ne nf nw:Nat)(l:List Pc):OddR ne nf nw l ne nf nw l:=⟨oM,oM,oM,oM,oM,λh=>h,λh=>h⟩
abbrev qC (q0 q1 q2:Int):Array Value:= #[.int .i64 q0,.int .i64 q1,.int .i64 q2]
theorem c0r :∀(l:List Pc) (p:Nat) (y:Pc),a8l (l.set p y)<=a8l l+1
 |[],p,y=>by simp[a8l]
 |x::l,0,y=>by
  unfold a8l;rw[List.set_cons_zero,List.countP_cons,List.countP_cons];split <;> split <;> omega
 |x::l,p+1,y=>by
  have ih:=c0r l p y;unfold a8l at ih ⊢;rw[List.set_cons_succ,List.countP_cons,List.countP_cons];omega
theorem b4c (a b:List Pc):a8l (a++b)=a8l a+a8l b:=by unfold a8l;rw[List.countP_append]
theorem OddR.set {ne nf nw:Nat}{l:List Pc}{p:Nat}(hp:p<l.length){y:Pc}(hy:PcOk l[p]->PcOk y)(hc:l[p].cls.size<=1000->y.cls.size<=1000):OddR ne nf nw l ne nf nw (l.set p y) :=
 ⟨oM,oM,oM,by rw[List.length_set];omega,c0r l p y,λh q hq=>(List.mem_or_eq_of_mem_set hq).elim (h q) (λe=>e▸hy (h _ (List.getElem_mem hp))),λh q hq=>(List.mem_or_eq_of_mem_set hq).elim (h q) (λe=>e▸hc (h _ (List.getElem_mem hp)))⟩
theorem OddR.push {ne nf nw:Nat}{l:List Pc}{y:Pc}(hy:PcOk y)(hc:y.cls.size<=1000):OddR ne nf nw l ne nf nw (l++[y]) :=
 ⟨oM,oM,oM,by simp,by rw[b4c];have:a8l [y]<=1:=by{ unfold a8l;exact List.countP_le_length };omega,λh q hq=>(List.mem_append.1 hq).elim (h q) (λe=>by rw[List.mem_singleton]at e;exact e▸hy),λh q hq=>(List.mem_append.1 hq).elim (h q) (λe=>by rw[List.mem_singleton]at e;exact e▸hc)⟩
theorem OddR.del {ne nf nw:Nat}{l:List Pc}{p:Nat}(hp:p<l.length):OddR ne nf nw l ne nf nw (l.take p++l.drop (p+1)):=by
 have hs:(l.take p++l.drop (p+1)).Sublist l:=by
  conv=>rhs;rw[<-List.take_append_drop p l]
  refine List.Sublist.append (List.Sublist.refl _) ?_;rw[List.drop_eq_getElem_cons hp];exact List.sublist_cons_self _ _
 exact⟨oM,oM,oM,Nat.le_trans hs.length_le oM,Nat.le_trans (hs.countP_le) (Nat.le_succ _),λh q hq=>h q (hs.subset hq),λh q hq=>h q (hs.subset hq)⟩
theorem e1n {W:Wd}{base:Nat}{pa:Option Addr}{pc:Nat}{l:List Pc}(h:W.ownsRow base 66 7 (.slice pa l.length pc) l.length (l.flatMap plE.enc))(hl:l≠[]):∃g,pa=some ⟨g,0,none⟩/\l.length<=pc:=by
 rcases h.2 with⟨e,h0⟩|⟨g,cap,cur,e,hb,ik,hc,-⟩
 ·exact absurd (List.eq_nil_of_length_eq_zero h0) hl
 ·simp only[Value.slice.injEq,true_and]at e
  obtain⟨rfl,rfl⟩:=e;exact⟨g,rfl,hc⟩
theorem OP.cellP {S0 S:BS}{W0 W:Wd}{L:b0f}{T:SlL}{g pc:Nat}{l:List Pc}(h:OP S0 W0 S W L T (.slice (some ⟨g,0,none⟩) l.length pc) l)(hl:l.length<=100000){p i:Nat}(hp:p<l.length)(hi:i<7):W.cell? ⟨g,p*7+i,none⟩=(plE.enc l[p])[i]?/\W.frozen? ⟨g,p*7+i,none⟩=false:=by
 obtain⟨b',fh,aI,e,-,-,hc⟩:=(a0d a4f h.row oM).some_ oM;simp only[Value.slice.injEq,Option.some.injEq,Addr.mk.injEq]at e;obtain⟨⟨rfl,rfl,-⟩,-,-⟩:=e;have h1:=hc p hp i hi;rw[Nat.zero_add]at h1;exact⟨h1,h.row.frozenAt _⟩
theorem d6i {W:Wd}{base g pc:Nat}{l:List Pc}(h:W.ownsRow base 66 7 (.slice (some ⟨g,0,none⟩) l.length pc) l.length (l.flatMap plE.enc)){k:Nat}(hk:k<=l.length):W.ownsRow base 66 7 (.slice (some ⟨g,0,none⟩) k pc) (l.take k).length ((l.take k).flatMap plE.enc):=by
 have aR:(l.take k).length=k:=by rw[List.length_take];omega
 have hf:(l.take k).flatMap plE.enc=(l.flatMap plE.enc).take (k*7):=by
  have e:(l.take k).flatMap plE.enc++(l.drop k).flatMap plE.enc=l.flatMap plE.enc:=by rw[<-List.flatMap_append,List.take_append_drop]
  rw[<-e,List.take_left' (by rw[a0w a4f,aR])]
 rw[aR];rcases h.2 with⟨e,h0⟩|⟨g',cap,cur,e,hb,ik,hc,hm,hs,ht⟩
 ·cases e
 ·simp only[Value.slice.injEq,Option.some.injEq,Addr.mk.injEq,true_and,and_true]at e
  obtain⟨rfl,rfl⟩:=e;refine⟨by rw[a0w a4f,aR],.inr ⟨g,pc,cur,rfl,hb,ik,oM,hm,hs,?_⟩⟩;rw[hf,<-ht,List.take_take,Nat.min_eq_left (Nat.mul_le_mul_right _ hk)]
theorem a7l {W:Wd}{base:Nat}{e:Td}{s:Nat}{v:Vu}{n:Nat}{xs:List Value}(h:W.ownsRow base e s v n xs):Frm v n:=by
 exact ykl
theorem Frm.or {a:Option Addr}{n cap:Nat}(h:Frm (.slice a n cap) n):(a=none/\n=0/\cap=0)\/∃b o,a=some ⟨b,o,none⟩:=by
 rcases h with hf|⟨b,o,c,hf⟩
 ·simp only[Value.slice.injEq]at hf
  exact .inl hf
 ·simp only[Value.slice.injEq]at hf
  exact .inr ⟨b,o,hf.1⟩
section
variable {α:Type}{E:El α}{W:Wd}{n0:Nat}{a:Option Addr}{cap k:Nat}{l:List α}
theorem a9o (hL:Lst E n0 W (.slice a l.length cap) l)(hF:Frm (.slice a l.length cap) l.length)(hk:k<=l.length):Lst E n0 W (.slice (if cap=k then a else a.map (·.add (k*E.s))) (l.length-k) (cap-k)) (l.drop k)/\Frm (.slice (if cap=k then a else a.map (·.add (k*E.s))) (l.length-k) (cap-k)) (l.drop k).length:=by
 rw[List.length_drop];have hc:l.length<=cap:=by
  obtain⟨a0,c0,e,hc⟩:=hL.form;simp only[Value.slice.injEq]at e;omega
 split
 ·rename_i he
  subst he;have h0:l.drop cap=[]:=List.drop_eq_nil_of_le hc;have h1:l.length-cap=0:=oM;rw[h0,h1,Nat.sub_self];rcases hF.or with⟨rfl,-,-⟩|⟨b,o,rfl⟩
  ·exact⟨Lst.nil _ _ _,.inl rfl⟩
  ·exact⟨⟨_,_,rfl,yR _,by simp,λj hj=>by simp at hj⟩,.inr ⟨_,_,_,rfl⟩⟩
 ·rename_i he
  rcases hF.or with⟨rfl,h0,rfl⟩|⟨b,o,rfl⟩
  ·omega
  ·have h1:=Lst.drop hL k hk
   have e:(Option.map (λx:Addr=>x.add (k*E.s)) (some ⟨b,o,none⟩))=some ⟨b,o+k*E.s,none⟩:=by rw[Option.map_some,Addr.add_lit]
   rw[e];exact⟨h1,.inr ⟨b,o+k*E.s,cap-k,rfl⟩⟩
end
theorem OP.setRow2 {S0 S:BS}{W0 W:Wd}{L:b0f}{T:SlL}{g cap:Nat}{l:List Pc}(h:OP S0 W0 S W L T (.slice (some ⟨g,0,none⟩) l.length cap) l){p i j:Nat}(hp:p<l.length)(hi:i<7)(hj:j<7){y1 y:Pc}{u v:Vu}(xS:plE.enc y1=(plE.enc l[p]).set i u)(he:plE.enc y=(plE.enc y1).set j v) :
 OP S0 W0 S ((W.setCell ⟨g,p*7+i,none⟩ u).setCell ⟨g,p*7+j,none⟩ v) L T (.slice (some ⟨g,0,none⟩) l.length cap) (l.set p y):=by
 have h1:=h.setRow hp hi xS;have h2:OP S0 W0 S (W.setCell ⟨g,p*7+i,none⟩ u) L T (.slice (some ⟨g,0,none⟩) (l.set p y1).length cap) (l.set p y1):=by rw[List.length_set];exact h1
 have h3:=h2.setRow (p:=p) (y:=y) (u:=v) (by rw[List.length_set];exact hp) hj (by rw[List.getElem_set_self];exact he);rw[List.set_set,List.length_set]at h3;exact h3
section
variable {α:Type}{E:El α}{P:Program}{st:Td}
theorem El.append_joinO (hE:E.Ok)(hI:E.In P st)(W:Wd)(base:Nat)(v xv:Vu)(l l2:List α)(ty:Td)(hv:W.ownsRow base E.t E.s v l.length (l.flatMap E.enc))(bR:∃g c,v= .slice (some ⟨g,0,none⟩) l.length c){n0:Nat}(hx:Lst E n0 W xv l2)(hf:Frm xv l2.length)(hl:l.length+l2.length<=100000)(hb:base<=W.heap.size) :
 ∃v' W',(Builtin.append_ #[st,st] ty #[v,xv]).run P W= .ok v' W'/\W'.ownsRow base E.t E.s v' (l++l2).length ((l++l2).flatMap E.enc)/\W.grownBy W' v.ownBlock/\Below base W W'/\(∃g cap,v'= .slice (some ⟨g,0,none⟩) (l++l2).length cap)/\(v'.ownBlock=v.ownBlock\/v'.ownBlock=some W.heap.size):=by
 obtain⟨i0,z,aT,bM,aW,bF,lZ⟩:=hI.info;obtain⟨g,c,rfl⟩:=bR;by_cases av:l2=[]
 ·subst av
  have hs:Src P i0.size st xv 0 [] W:=by
   exact yeu
  have eU:l.length+0<=c:=by
   exact yev
  have hr:=run_append_room_src (P:=P) W st st ty E.t i0 hI.under aT g 0 l.length c xv 0 [] hs eU vM vM;refine⟨_,_,hr,?_,?_,?_,⟨g,c,?_⟩,.inl rfl⟩
  ·rw[List.append_nil];exact hv
  ·exact⟨rfl,rfl,rfl,yR _,λ_ _ _=>rfl⟩
  ·exact⟨rfl,rfl,rfl,yR _,λ_ _=>rfl⟩
  ·rw[List.append_nil];rfl
 ·have dR:0<l2.length:=List.length_pos_iff.2 av
  obtain⟨b,off,cap,rfl,bY,lT,-⟩:=hx.some_ dR;have cC:∀j u,(l2.flatMap E.enc)[j]? =some u->W.cell? ((⟨b,off,none⟩:Addr).add j)=some u:=λj u hj=>by
   exact yji
  obtain⟨v',W',hr,aj,hg,-,wE⟩:=run_append_own_at (P:=P) W base st ty E.t i0 _ E.s i0.bytes hI.under aT bM aW rfl lZ hE.pos _ l.length _ hv ⟨b,off,none⟩ l2.length cap (l2.flatMap E.enc) (a0w hE l2) cC (a4q hE l2) oK (Nat.le_trans (Nat.mul_le_mul (show l.length+l2.length<=100000 by omega) bF) jM) hb;have qn:∃g cap,v'= .slice (some ⟨g,0,none⟩) (l++l2).length cap:=by
   exact yje
  refine⟨v',W',hr,?_,hg,a1l hg hb (λk e=>(hv.lt k e).1),qn,wE⟩;exact yju
theorem El.joinO (hE:E.Ok)(hI:E.In P st){ops:Array Oper}{rest:List Oper}{o:Oper}{a:Act}{w:Wd}{Q:Exit->Act->World->Prop}(dI:o.guard=none)(s x:Operand)
 (ho:o.op= .call { callee:= .builtin .append,args:= #[s,x],argTypes:= #[st,st] })
 (base:Nat) {v:Vu} (hs:a.eval s=v) (l:List α) (hv:w.ownsRow base E.t E.s v l.length (l.flatMap E.enc)) (bR:∃g c,v= .slice (some ⟨g,0,none⟩) l.length c) {xv:Vu} (l2:List α) (dH:a.eval x=xv) {n0:Nat} (hx:Lst E n0 w xv l2) (hf:Frm xv l2.length) (hl:l.length+l2.length<=100000) (hb:base<=w.heap.size)
 (h:∀v' w',w'.ownsRow base E.t E.s v' (l++l2).length ((l++l2).flatMap E.enc)->w.grownBy w' v.ownBlock->(∃g cap,v'= .slice (some ⟨g,0,none⟩) (l++l2).length cap)->(∀g,v'.ownBlock=some g->v.ownBlock=some g\/w.heap.size<=g)->wpList P ops Q rest (a.put o.dst v') w') :
 wpList P ops Q (o::rest) a w:=by
 obtain⟨v',w',hr,h2,h3,h4,h5,h6⟩:=El.append_joinO hE hI w base v xv l l2 o.type hv bR hx hf hl hb;refine wpList_plain dI λK hK=> ?_
 unfold Oper.wp execOp;simp only[ho,resolve,invoke,builtin,Sem.run_bind,Sem.run_pure,Result.andThen_ok,List.map_toArray,List.map_cons,List.map_nil,hs,dH,hr];refine hK _ _ (h v' w' h2 h3 h5 λg e=> ?_);rcases h6 with h6|h6
 ·exact .inl (h6▸e)
 ·rw[h6]at e
  cases e;exact .inr (yR _)
theorem El.pushAt (hE:E.Ok)(hI:E.In P st){ops:Array Oper}{rest:List Oper}{o:Oper}{a:Act}{w:Wd}{l:List α}{Q:Exit->Act->World->Prop}(dI:o.guard=none)(sO xO:Operand)(ho:o.op= .call { callee:= .builtin .append,args:= #[sO,xO],argTypes:= #[st,st] })
 {base:Nat} {v:Vu} (hs:a.eval sO=v) (ae:w.ownsRow base E.t E.s v l.length (l.flatMap E.enc)) (x:α) {H:Nat} (hx:a.eval xO= .slice (some ⟨H,0,none⟩) 1 1) (hH:Blk w H (E.enc x).toArray E.t) (aD:base<=w.heap.size) (hl:l.length<=100000)
 (h:∀v' w',w'.ownsRow base E.t E.s v' (l++[x]).length ((l++[x]).flatMap E.enc)->w.grownBy w' v.ownBlock->(∀g,v'.ownBlock=some g->v.ownBlock=some g\/w.heap.size<=g)->wpList P ops Q rest (a.put o.dst v') w') :
 wpList P ops Q (o::rest) a w:=by
 obtain⟨i,z,hi,hz,bu,o9,kj⟩:=hI.info;have hlen:=hE.len x;refine wpList_append_lies _ dI sO xO st ho base E.t i z E.s i.bytes hI.under hi hz bu rfl kj hE.pos v l.length _ hs ae ⟨H,0,none⟩ 1 1 (E.enc x) hx (by rw[hlen,Nat.one_mul]) (World.news_of_block hH) (hE.one x) oM oK (Nat.le_trans (Nat.mul_le_mul (Nat.add_le_add_right hl 1) o9) jM) aD _ rfl ?_;intro g cap w' aj hg fD ag;refine h _ w' (by simpa[List.flatMap_append]using aj) hg λg' e=> ?_
 simp only[Value.ownBlock,Option.some.injEq]at e;subst e;rcases fD with h1|h1
 ·exact .inl h1
 ·exact .inr (by rw[h1];exact yR _)
end
theorem OP.store {S0 S:BS}{W0 W:Wd}{L:b0f}{T:SlL}{ov:Vu}{l:List Pc}(h:OP S0 W0 S W L T ov l){e:Td}{b off n cap s:Nat}(he:ET e s)(hv:SL S W e (.slice (some ⟨b,off,none⟩) n cap) n)(ho:Own W0.heap.size (.slice (some ⟨b,off,none⟩) n cap))(k i:Nat)(ct:CT)(su:(a2x e)[i]? =some ct)(u:Vu)(hu:ct.ok S W u) :
 OP S0 W0 S (W.setCell ⟨b,off+k*s+i,none⟩ u) L T ov l/\W.frozen? ⟨b,off+k*s+i,none⟩=false:=by
 obtain⟨h1,h2⟩:=SL.store (X:=noB) h.b.tw he hv k i ct su u hu;exact⟨h.evo h1 ((zR _ W).grown (a0z W b _ u) h.b.size (λq e=>by cases e;exact ho _ _ _ rfl)),h2⟩
theorem SL.face5 {S:BS}{W:Wd}{b off n cap:Nat}(hT:TW S W)(h:SL S W 140 (.slice (some ⟨b,off,none⟩) n cap) n){k:Nat}(hk:k<n):∃id cs ns wt ds,W.cell? ⟨b,off+k*5,none⟩=some (.int .i64 id)/\W.cell? ⟨b,off+k*5+1,none⟩=some (.string cs)/\W.cell? ⟨b,off+k*5+2,none⟩=some (.string ns)/\W.cell? ⟨b,off+k*5+3,none⟩=some (.int .i64 wt)/\W.cell? ⟨b,off+k*5+4,none⟩=some (.int .i64 ds)/\fits id/\cs.size<=30/\ns.size<=30/\fits wt/\fits ds:=by
 obtain⟨u0,c0,h0⟩:=h.cell hT a1v hk 0 .int rfl;obtain⟨u1,c1,h1⟩:=h.cell hT a1v hk 1 .str rfl;obtain⟨u2,c2,h2⟩:=h.cell hT a1v hk 2 .str rfl;obtain⟨u3,c3,h3⟩:=h.cell hT a1v hk 3 .int rfl;obtain⟨u4,c4,h4⟩:=h.cell hT a1v hk 4 .int rfl;obtain⟨id,rfl,f0⟩:=h0.i rfl;obtain⟨cs,rfl,f1⟩:=h1.s rfl;obtain⟨ns,rfl,f2⟩:=h2.s rfl;obtain⟨wt,rfl,f3⟩:=h3.i rfl;obtain⟨ds,rfl,f4⟩:=h4.i rfl;exact⟨id,cs,ns,wt,ds,c0,c1,c2,c3,c4,f0,f1,f2,f3,f4⟩
abbrev mZ :Array Value:= #[.slice none 0 0,.slice none 0 0,.slice none 0 0,.slice none 0 0]
abbrev e2e :Array Value:= #[.string ⟨#[]⟩,.string ⟨#[70,105,101,108,100]⟩,.string ⟨#[119,111,111,100]⟩,.string ⟨#[97,98,99,100,101,102,103,104,105,106,107,108,109]⟩,.string ⟨#[108,97,107,101]⟩]
theorem Own.sliceG {m n c:Nat}{a:Option Addr}(h:Own m (.slice a n c))(n':Nat):Own m (.slice a n' c):=λa' k' c' e=>by
 cases e;exact h a' n c rfl
theorem c8d {a:Nat}{m:Int}(h:a<=1000):fits (Int.tmod (a:Int) m):=by
 have h1:(Int.tmod (a:Int) m).natAbs<=a:=by
  rw[Int.natAbs_tmod];simpa using Nat.mod_le a m.natAbs
 exact⟨oM,oM⟩
def FG1 (BO k n p q nf fb fo js:Nat)(s:Bw)(i:Nat)(v:Vu)(g:BS)(w:Wd):Prop :=
 match i with
 |0=>v= .pointer (some ⟨BO,1,none⟩)
 |1=>v= .slice (some ⟨fb,fo,none⟩) nf js
 |2=>v= .int .i64 (k:Nat)
 |3=>v= .pointer (some ⟨BO,1,none⟩)
 |4=>v= .slice (some ⟨fb,fo,none⟩) nf js
 |5=>v= .int .i64 (nf:Nat)
 |6=>v= .int .i64 (p:Nat)
 |7=>∃Z,v= .slice (some ⟨Z,0,none⟩) 5 5/\Blk w Z e2e 9/\¬g Z
 |8=>v= .int .i64 (n:Nat)
 |9=>v= .int .i64 (q:Nat)
 |10=>∃Z,v= .pointer (some ⟨Z,q,none⟩)/\Blk w Z e2e 9/\¬g Z
 |11=>v= .string s
 |_=>False
theorem FG1.kept {BO k n p q nf fb fo js:Nat}{s:Bw}{i:Nat}{v:Vu}{g g':BS}{w w':Wd}(h:FG1 BO k n p q nf fb fo js s i v g w)(hg:Ev noB g w g' w'):FG1 BO k n p q nf fb fo js s i v g' w':=by
 unfold FG1 at *;split at h
 all_goals first|exact h|(obtain⟨Z,h1,h2,h3⟩:=h;exact⟨Z,h1,hg.blk h2 h3 (λh=>h),hg.not h2.lt h3⟩)|(exact h)
def FG9 (BO n k nw:Nat)(j5:Option Addr)(jv:Nat)(s:Bw)(i:Nat)(v:Vu)(g:BS)(w:Wd):Prop :=
 match i with
 |0=>v= .pointer (some ⟨BO,2,none⟩)
 |1=>v= .slice j5 nw jv
 |2=>v= .int .i64 (n:Nat)
 |3=>∃x,v= .int .i64 x/\fits x
 |4=>v= .int .i64 (n:Nat)
 |5=>∃x,v= .int .i64 x/\fits x
 |6=>∃x,v= .agg #[.int .i64 x,.int .i64 20]/\fits x
 |7=>v= .agg #[.int .i64 55,.int .i64 65]
 |8=>SL g w 26 v 2
 |9=>v= .int .i64 (k:Nat)
 |10=>∃x,v= .int .i64 x/\fits x
 |11=>v= .int .i64 (k:Nat)
 |12=>v= .string s
 |13=>v= .int .i64 (n:Nat)
 |14=>∃x,v= .int .i64 x/\fits x
 |15=>v= .int .i64 (k:Nat)
 |16=>∃x,v= .int .i64 x/\fits x
 |17=>∃x,v= .int .i64 x/\fits x
 |18=>∃a dG wt ds sv,v= .agg #[.int .i64 a,sv,.int .i64 dG,.string ⟨#[112,97,116,104]⟩,.string s,.bool false,.int .i64 wt,.int .i64 ds]/\fits a/\fits dG/\fits wt/\fits ds/\SL g w 26 sv 2
 |19=>SL g w 149 v 1
 |_=>False
theorem FG9.kept {BO n k nw:Nat}{j5:Option Addr}{jv:Nat}{s:Bw}{i:Nat}{v:Vu}{g g':BS}{w w':Wd}(h:FG9 BO n k nw j5 jv s i v g w)(hg:Ev noB g w g' w'):FG9 BO n k nw j5 jv s i v g' w':=by
 unfold FG9 at *;split at h
 all_goals first|exact h|(exact h)|(exact hg.sl h)|(obtain⟨a,dG,wt,ds,sv,h1,h2,h3,h4,h5,h6⟩:=h;exact⟨a,dG,wt,ds,sv,h1,h2,h3,h4,h5,hg.sl h6⟩)
abbrev e1o :Array Value:= #[.int .i64 0,.int .i64 1073741824,.int .i64 1073741825,.int .i64 70]
def FG14 (BO n k q:Nat)(lz:Option Addr)(l:List Pc)(j6:Nat)(s:Bw)(z:Int)(i:Nat)(v:Vu)(g:BS)(w:Wd):Prop :=
 match i with
 |0=>v= .pointer (some ⟨BO,3,none⟩)
 |1=>v= .slice lz l.length j6
 |2=>∃Z,v= .slice (some ⟨Z,0,none⟩) 4 4/\Blk w Z e1o 3/\¬g Z
 |3=>v= .int .i64 (n:Nat)
 |4=>v= .int .i64 (q:Nat)
 |5=>∃Z,v= .pointer (some ⟨Z,q,none⟩)/\Blk w Z e1o 3/\¬g Z
 |6=>v= .int .i64 z
 |7=>v= .int .i64 (n:Nat)
 |8=>∃x,v= .int .i64 x/\fits x
 |9=>∃x,v= .int .i64 x/\fits x
 |10=>v= .int .i64 (n:Nat)
 |11=>∃x,v= .int .i64 x/\fits x
 |12=>∃x,v= .int .i64 x/\fits x
 |13=>v= .int .i64 (k:Nat)
 |14=>∃x,v= .int .i64 x/\fits x
 |15=>∃x,v= .int .i64 x/\fits x
 |16=>∃x y,v= .agg #[.int .i64 x,.int .i64 y]/\fits x/\fits y
 |17=>v= .int .i64 (k:Nat)
 |18=>v= .string s
 |19=>v= .int .i64 (n:Nat)
 |20=>∃x,v= .int .i64 x/\fits x
 |21=>∃x,v= .int .i64 x/\fits x
 |22=>∃y:Pc,v=plV y/\PcOk y/\y.cls.size<=1000
 |23=>∃H y,v= .slice (some ⟨H,0,none⟩) 1 1/\Blk w H (plE.enc y).toArray 66/\¬g H/\PcOk y/\y.cls.size<=1000
 |_=>False
theorem FG14.kept {BO n k q:Nat}{lz:Option Addr}{l:List Pc}{j6:Nat}{s:Bw}{z:Int}{i:Nat}{v:Vu}{g g':BS}{w w':Wd}(h:FG14 BO n k q lz l j6 s z i v g w)(hg:Ev noB g w g' w'):FG14 BO n k q lz l j6 s z i v g' w':=by
 unfold FG14 at *;split at h
 all_goals first|exact h|(obtain⟨Z,h1,h2,h3⟩:=h;exact⟨Z,h1,hg.blk h2 h3 (λh=>h),hg.not h2.lt h3⟩)|(exact h)|(obtain⟨Z,y,h1,h2,h3,h4⟩:=h;exact⟨Z,y,h1,hg.blk h2 h3 (λh=>h),hg.not h2.lt h3,h4⟩)
structure OO (w:Wd)(BO BR BQ BM:Nat)(q0 q1 q2:Int)(M0:Array Value)(S:BS)(W:Wd)(ev fv wv pv:Vu)(ne nf nw:Nat)(l:List Pc):Prop where
 p:OP noB w S W [(BO,#[ev,fv,wv,pv],37),(BR,mZ,37),(BQ,qC q0 q1 q2,23),(BM,M0,37)] [(206,ev,ne),(140,fv,nf),(149,wv,nw)] pv l
 oe:Own w.heap.size ev
 of:Own w.heap.size fv
 ow:Own w.heap.size wv
def a1d (kk:Nat):Prop:=∀(U:BS) (w:Wd) (ev fv wv pv:Vu) (ne nf nw:Nat) (l:List Pc) (hI:MapI U w ev fv wv pv ne nf nw l) (q0 q1 q2:Int) (df:fits q0) (cT:fits q1) (cU:fits q2),q0 % 17=(kk:Int) ->
    Calls prog 31 #[.agg #[ev,fv,wv,pv],.agg (qC q0 q1 q2)] w λe w'=>∃S' jV jW pJ mJ ne' nf' nw' l',e= .returned (.agg #[jV,jW,pJ,mJ])/\MapR w.heap.size S' w' jV jW pJ mJ ne' nf' nw' l'/\OddR ne nf nw l ne' nf' nw' l'/\Ev noB noB w S' w'
theorem a1g {P:Prop}(h:P:=by
 unfold a1d;intro U w ev fv wv pv ne nf nw l hI q0 q1 q2 df cT cU lC;have ir:=hI.nf;have av:=hI.ne;have xU:=hI.nw;have tU:=hI.np;go_enter func31,ntmps31;go_upto_region 1 with fail;refine a0m (λW1 aH=> ?_);have h1:=(((OY.init (TW.none w)).box #[ev,fv,wv,pv] 37).box (qC q0 q1 q2) 23).box #[.slice none 0 0,.slice none 0 0,.slice none 0 0,.slice none 0 0] 37;obtain⟨ea,ec,rfl,xJ⟩:=hI.e.form;obtain⟨fa,fc,rfl,Mv⟩:=hI.f.form;obtain⟨wa,wc,rfl,pr⟩:=hI.w.form;obtain⟨pa,pc,rfl,ie⟩:=hI.p.form;obtain⟨BM,pK⟩:=zE w.heap.size;simp only[World.size_alloc]at h1;rw[<-aH,pK]at h1;rw[pK];obtain⟨BQ,uq⟩:=zE (BM+1);obtain⟨BR,sx⟩:=zE (BM+1+1);rw[sx,uq]at h1;rw[sx,uq];have nt:=hI.up h1.bel;obtain⟨m0,m1,m2,m3⟩:=a2c h1.b2;clear aH;go_upto_region 2 with(first
  |(go_at_call 76;(with_reducible refine(c7g U W1 _ _ _ _ ne nf nw l nt).mono ?_);rintro e WC⟨SC,UM,UN,UO,UP,rfl,hR,bC⟩;obtain⟨vQ,vR,rfl,Q1⟩:=hR.e.form;obtain⟨AN,js,rfl,Q2⟩:=hR.f.form;obtain⟨j5,jv,rfl,xy⟩:=hR.w.form;obtain⟨lz,j6,rfl,Q3⟩:=(a0d a4f hR.row oM).form))
 have F1:∀b,SC b->w.heap.size<=b:=λb hb=>(bC.new b hb).elim (λh=>h.elim) (λh=>Nat.le_trans h1.size h)
 have MS:OP noB w _ WC _ _ _ l:=⟨((((h1.evn bC).add (b3n hR.w)).add (b3n hR.f)).add (b3n hR.e)),d6h hR.row h1.size,λg hg hs=>hs.elim (λh=>h.elim) (λh=>hR.off g hg h),by simp⟩;refine a0m (λWD MT=> ?_);have Jl:=MS.box #[.slice vQ ne vR,.slice AN nf js,.slice j5 nw jv,.slice lz l.length j6] 37 jM;obtain⟨BO,qG⟩:=zE WC.heap.size;rw[<-MT,qG]at Jl;rw[qG];have hO:OO w BO BR BQ BM q0 q1 q2 _ _ WD _ _ _ _ ne nf nw l:=⟨Jl,a6y hR.e F1,a6y hR.f F1,a6y hR.w F1⟩;clear Jl MS hR bC F1 MT qG h1 nt m0 m1 m2 m3;obtain⟨S9,rU⟩:∃S:BS,(λb=>False\/SC b)=S:=⟨_,rfl⟩;rw[rU]at hO;clear rU hI;obtain⟨n,hn,Q4⟩:∃n:Nat,q1 % 60=(n:Int)/\n<60:=⟨(q1 % 60).toNat,oM,oM⟩;obtain⟨k,hk,Q5⟩:∃n:Nat,q2 % 64=(n:Int)/\n<64:=⟨(q2 % 64).toNat,oM,oM⟩;obtain⟨r,hr,D6⟩:∃n:Nat,q0 % 17=(n:Int)/\n<17:=⟨(q0 % 17).toNat,oM,oM⟩;have Jm:=Lib.hid (Int.ofNat_inj.1 (hr.symm.trans lC));clear lC;have cV:=a5x q1 60 WD cT jM jM;have fO:=a5x q2 64 WD cU jM jM;have pI:=a5x q0 17 WD df jM jM;rw[hn]at cV;rw[hk]at fO;rw[hr]at pI;obtain⟨i0,i1,i2⟩:=zN3 hO.p.b.b2;go_upto_block 0 with(first
  |(go_at_call 77;(with_reducible refine cV.mono ?_);rintro e W'⟨rfl,rfl⟩)
  |(go_at_call 77;(with_reducible refine fO.mono ?_);rintro e W'⟨rfl,rfl⟩)
  |(go_at_call 77;(with_reducible refine pI.mono ?_);rintro e W'⟨rfl,rfl⟩))
 clear cV fO pI hr hn hk pK uq sx;generalize qF: #[Value.slice ea ne ec,.slice fa nf fc,.slice wa nw wc,.slice pa l.length pc]=M0 at hO;go_cut [] (λwx=>∃S jV jW pJ mJ ne' nf' nw' l',OO w BO BR BQ BM q0 q1 q2 M0 S wx jV jW pJ mJ ne' nf' nw' l'/\OddR ne nf nw l ne' nf' nw' l')
 case rest =>
  obtain⟨S',jV,jW,pJ,mJ,ne',nf',nw',l',gY,hR⟩:=hcut;obtain⟨e1,c1,rfl,-⟩:=gY.p.b.s0.form;obtain⟨e2,c2,rfl,-⟩:=gY.p.b.s1.form;obtain⟨e3,c3,rfl,-⟩:=gY.p.b.s2.form;obtain⟨e4,c4,rfl,-⟩:=(a0d a4f gY.p.row (by have:=hR.p;omega)).form;obtain⟨b0,b1,b2,b3⟩:=a2c gY.p.b.b0;obtain⟨r0,r1,r2,r3⟩:=a2c gY.p.b.b1;have z0:=gY.p.b.b1.frozen 0;have z1:=gY.p.b.b1.frozen 1;have z2:=gY.p.b.b1.frozen 2;have z3:=gY.p.b.b1.frozen 3;have hX:=((((gY.p.tail.put (i:=0) (v:= .slice e1 ne' c1) rfl rfl).put (i:=1) (v:= .slice e2 nf' c2) rfl rfl).put (i:=2) (v:= .slice e3 nw' c3) rfl rfl).put (i:=3) (v:= .slice e4 l'.length c4) (c':= #[.slice e1 ne' c1,.slice e2 nf' c2,.slice e3 nw' c3,.slice e4 l'.length c4]) rfl rfl);go_wp2_with fail;exact bodyPost_ret (results_cell_row qM _ _ BR 37 _ (0,0) _ qM hX.b.b0 underlying37 qM zM) rfl ⟨S',_,_,_,_,ne',nf',nw',l',rfl,⟨hX.b.s0,hX.b.s1,hX.b.s2,hX.row,hX.off⟩,hR,hX.b.o.ev⟩
 case first =>
  obtain⟨b0,b1,b2,b3⟩:=a2c hO.p.b.b0;clear qF;obtain rfl:=Jm.out;exact zCase):P:=h
theorem a0e {w w':Wd}(hB:Below w.heap.size w w'){b o:Nat}{v:Vu}(h:w.cell? ⟨b,o,none⟩=some v):w'.cell? ⟨b,o,none⟩=some v:=by
 have ag:=World.block_lt_of_cell? _ _ h;exact(Below.cell hB (p:=⟨b,o,none⟩) ag).trans h
theorem Own.slice {m n c:Nat}{a:Option Addr}(h:Own m (.slice a n c))(n':Nat):Own m (.slice a n' c):=λa' k' c' e=>by
 cases e;exact h a' n c rfl
theorem OY.append_e {S0 S:BS}{W0 W:Wd}{L:b0f}{T:SlL}(h0:OY S0 W0 S W L T){o:Oper}{a:Act}{K:Act->World->Prop}{Q:Exit->Act->World->Prop}(sO xO:Operand)(t:Td)(ho:o.op= .call { callee:= .builtin .append,args:= #[sO,xO],argTypes:= #[t,t] })
 {e:Td} {s:Nat} (ht:prog.underlying t=some (.slice e)) (he:ET e s) {sv xv:Vu} {n m:Nat} (bH:a.eval sO=sv) (hv:SL S W e sv n) (aj:Own W0.heap.size sv) (dH:a.eval xO=xv) (hx:SL S W e xv m) (hl:n+m<=1000000)
 (h:∀v' S' w',OY S0 W0 S' w' L ((e,v',n+m)::T)->Own W0.heap.size v'->Ev noB S W S' w'->K (a.put o.dst v') w'):Oper.wp prog o a W K Q:=by
 obtain⟨v',S',w',hr,h2,h3,h4,h5⟩:=b0i (X:=noB) h0.tw (ty:=o.type) ht he hv hx hl h0.size aj;exact yfn
def FO7 (n0 gy n k p eb eo je:Nat)(cx:Int)(i:Nat)(v:Vu)(g:BS)(w:Wd):Prop :=
 match i with
 |0=>v= .slice (some ⟨eb,eo,none⟩) k je
 |1=>v= .int .i64 (n:Nat)
 |2=>∃x,v= .int .i64 x/\fits x
 |3=>v= .agg #[.int .i64 cx,.int .i64 90]
 |4=>v= .pointer (some ⟨gy,0,none⟩)
 |5=>v= .int .i64 cx
 |6=>∃x,v= .int .i64 x/\fits x
 |7=>∃x,v= .agg #[.int .i64 x,.int .i64 90]/\fits x
 |8=>v= .pointer (some ⟨gy,0,none⟩)
 |9=>v= .int .i64 cx
 |10=>v= .agg #[.int .i64 cx,.int .i64 95]
 |11=>v= .agg #[.int .i64 cx,.int .i64 90]
 |12=>SL g w 26 v 4
 |13=>∃Z,v= .slice (some ⟨Z,0,none⟩) 3 3/\Blk w Z #[.int .i64 0,.int .i64 22,.int .i64 28] 3/\¬g Z
 |14=>v= .int .i64 (n:Nat)
 |15=>v= .int .i64 (p:Nat)
 |16=>∃Z,v= .pointer (some ⟨Z,p,none⟩)/\Blk w Z #[.int .i64 0,.int .i64 22,.int .i64 28] 3/\¬g Z
 |17=>∃x,v= .int .i64 x/\fits x
 |18=>∃a c sv,v= .agg #[.int .i64 a,sv,.int .i64 21,.int .i64 c]/\fits a/\fits c/\SL g w 26 sv 4
 |19=>SL g w 206 v 1
 |20=>SL g w 206 v (k+1)/\Own n0 v
 |_=>False
theorem FO7.kept {n0 gy n k p eb eo je:Nat}{cx:Int}{i:Nat}{v:Vu}{g g':BS}{w w':Wd}(h:FO7 n0 gy n k p eb eo je cx i v g w)(hg:Ev noB g w g' w'):FO7 n0 gy n k p eb eo je cx i v g' w':=by
 unfold FO7 at *;split at h
 all_goals first|exact h|(exact h)|(exact hg.sl h)|(obtain⟨Z,h1,h2,h3⟩:=h;exact⟨Z,h1,hg.blk h2 h3 (λh=>h),hg.not h2.lt h3⟩)|(obtain⟨a,c,sv,h1,h2,h3,h4⟩:=h;exact⟨a,c,sv,h1,h2,h3,hg.sl h4⟩)|(exact⟨hg.sl h.1,h.2⟩)
theorem SL.blk_ {S:BS}{W:Wd}{e:Td}{b off n cap:Nat}(h:SL S W e (.slice (some ⟨b,off,none⟩) n cap) n):∃c,Blk W b c e:=by
 obtain⟨a',aI,h0,h1,⟨rfl,rfl⟩|⟨b',o,c,rfl,hb,hc,hl⟩⟩:=h
 ·simp at h0
 ·simp only[Value.slice.injEq,Option.some.injEq,Addr.mk.injEq,and_true,true_and]at h0
  obtain⟨⟨rfl,-⟩,-⟩:=h0;exact⟨c,hc⟩
structure O7 (w:Wd)(S:BS)(W:Wd)(e1 f1:Vu)(ne nf:Nat)(L:b0f):Prop where
 b:OY noB w S W L [(206,e1,ne),(140,f1,nf)]
 oe:Own w.heap.size e1
 of:Own w.heap.size f1
def a2a (kk:Nat):Prop:=∀(U:BS) (w:Wd) (hT:TW U w) (ev fv:Vu) (ne nf:Nat) (iu:SL U w 206 ev ne) (iw:SL U w 140 fv nf) (av:ne<=1000) (ir:nf<=1000) (q0 q1 q2:Int) (df:fits q0) (cT:fits q1) (cU:fits q2),q0 % 13=(kk:Int) ->
    Calls prog 78 #[ev,fv,.agg #[.int .i64 q0,.int .i64 q1,.int .i64 q2]] w λe w'=>∃S' jV jW ne' nf',e= .returned (.tuple #[jV,jW])/\SL S' w' 206 jV ne'/\SL S' w' 140 jW nf'/\ne'<=ne+1/\nf'<=nf+1/\Ev noB noB w S' w'
theorem a2f {P:Prop}(h:P:=by
 unfold a2a;intro U w hT ev fv ne nf iu iw av ir q0 q1 q2 df cT cU lC;obtain⟨ea,ec,rfl,xJ⟩:=iu.form;obtain⟨fa,fc,rfl,Mv⟩:=iw.form;have h0:=(OY.init (TW.none w)).box #[.int .i64 q0,.int .i64 q1,.int .i64 q2] 23;go_enter func78,ntmps78;go_upto_region 2 with fail;refine a0m (λW1 aH=> ?_);obtain⟨BQ,uq⟩:=zE w.heap.size;rw[<-aH,uq]at h0;rw[uq];clear aH uq;go_wp2_with fail;go_loopw [8,9] (λe1 kk wr=>∃(k:Nat) (S:BS),k<=ne/\kk= .int .i64 (k:Nat)/\OY noB w S wr [(BQ,#[.int .i64 q0,.int .i64 q1,.int .i64 q2],23)] [(206,e1,k)]/\Own w.heap.size e1) (λ_ kk _=>ne-(intOf kk).toNat)
 case atStart=>exact⟨0,_,Nat.zero_le _,rfl,h0.add (SL.nil _ _ _),b7f _⟩
 case round =>
  clear h0;obtain⟨k,S,hk,rfl,hP,aj⟩:=hrel;have rQ:=hP.old hT;have F2:=hP.oldS hT iu;by_cases ag:k<ne
  ·as_aux_lemma =>
    have aA:(k:Int)<(ne:Int):=oM;obtain⟨eb,eo,Q6,heq,Jn,-⟩:=F2.some_ oM
    cases heq;obtain⟨id,ll,rr,lv,m,c0,c1,c2,c3,f0,f2,f3,aJ,hm⟩:=SL.edge rQ F2 ag;obtain⟨la,lc,rfl,eU⟩:=aJ.form;have tV:IntKind.i64.wrap ((k:Int)+1)=((k+1:Nat):Int):=by rw[a0j oM oM];omega
    obtain⟨AE,je,rfl,x7⟩:=hP.s0.form;go_upto_region 6 with fail;refine a0m (λWE jl=> ?_);have jX:=(hP.box #[.int .i64 id,.slice la m lc,.int .i64 ll,.int .i64 rr] 206);obtain⟨BE,mG⟩:=zE wr.heap.size;have qQ:Below wr.heap.size wr WE:=by rw[jl];exact(zR _ _).alloc (yR _) _
    rw[<-jl,mG]at jX;rw[mG];have MU:=b1x rQ qQ (λb hb=>rQ.lt hb);have kN:=a4y qQ (λb hb=>rQ.lt hb) aJ;clear hP jl mG c0 c1 c2 c3 rQ F2 aJ qQ;have k1:WE.cell? ⟨BE,1,none⟩=some (.slice la m lc):=jX.b0.cell 1;refine a0m (λWF yU=> ?_);subst yU;have eW:=jX.empty 26;have yV:=eW.old hT;have rn:=a4y ((zR _ WF).alloc (yR _) (.cells #[] 26)) (λb hb=>MU.lt hb) kN;have lD:Own w.heap.size (.slice (some ⟨WF.heap.size,0,none⟩) 0 0):=c5v jX.size _;go_upto_region 7 with(first
     |(at_builtin;refine eW.append_fl yV qM _ _ 147 qM underlying147 a1z b5t qM eW.s0 lD qM rn oM ?_;intro v9 S9 WG gp _ _;obtain⟨a3,c3,rfl,nD⟩:=gp.s0.form;have q1:=gp.b0.cell 1;have y1:=gp.b0.frozen 1))
    refine a0m (λWM vE=> ?_);simp only[Nat.zero_add]at gp nD;have gD:OY _ _ _ _ ((BE,#[.int .i64 id,.slice a3 m c3,.int .i64 ll,.int .i64 rr],_)::_) _:=gp.put vE rfl;clear jX eW gp vE q1 y1 yV rn lD MU kN k1;obtain⟨q0,q1,q2,q3⟩:=ed4 gD.b0;obtain⟨HS,x8⟩:=zE WM.heap.size;go_wp2_with (first
     |(at_builtin;refine gD.append_n qM _ _ 32 qM underlying32 a2g qM gD.s2 aj qM x8 (b3i f0 f2 f3 gD.s0 hm) rfl oM ?_;intro e9 S9 W9 bE cM))
    refine⟨⟨k+1,S9,ag,rfl,⟨⟨bE.tail.o.ev,bE.tail.o.bx,bE.tail.o.ne,λq hq=>bE.o.sl q (by rw[List.mem_singleton.1 hq];exact List.mem_cons_self ..)⟩,bE.bel⟩,cM⟩,?_⟩;exact yhh
  ·have aY:((k:Int)<(ne:Int))=False:=by simp;omega
   obtain rfl:k=ne:=oM;clear rQ F2;obtain⟨AE,je,rfl,x7⟩:=hP.s0.form;have sH:=hP.empty 140;have yV:=sH.old hT;have rn:=sH.oldS hT iw;have lD:Own w.heap.size (.slice (some ⟨wr.heap.size,0,none⟩) 0 0):=c5v hP.size _;go_upto_region 9 with(first
    |(at_builtin;refine sH.append_fl yV qM _ _ 33 qM underlying33 a1v c0a qM sH.s0 lD qM rn oM ?_;intro v9 S9 W9 bE rq _;obtain⟨f10,AO,rfl,Jo⟩:=bE.s0.form))
   simp only[Nat.zero_add]at bE Jo rq;have hO:O7 w S9 W9 (.slice AE k je) (.slice f10 nf AO) k nf [(BQ,#[.int .i64 q0,.int .i64 q1,.int .i64 q2],23)]:=⟨⟨⟨bE.o.ev,bE.o.bx,bE.o.ne,λq hq=>bE.o.sl q (by
    rcases List.mem_cons.1 hq with rfl|hq
    ·exact List.mem_cons_of_mem _ (List.mem_cons_of_mem _ (List.mem_cons_self ..))
    ·rw[List.mem_singleton.1 hq];exact List.mem_cons_self ..)⟩,bE.bel⟩,aj,rq⟩
   clear bE sH yV rn lD hP aj rq;by_cases iB:k=0
   ·subst iB
    go_wp2_with fail;go_ret2;exact⟨_,_,_,_,_,rfl,hO.b.s0,hO.b.s1,oM,oM,hO.b.o.ev⟩
   have ru:((k:Int)==0)=false:=by simpa using iB
   have F3:0<k:=oM;obtain⟨i0,i1,i2⟩:=(⟨hO.b.b0.cell 0,hO.b.b0.cell 1,hO.b.b0.cell 2⟩:W9.cell? ⟨BQ,0,none⟩=some (.int .i64 q0)/\W9.cell? ⟨BQ,1,none⟩=some (.int .i64 q1)/\W9.cell? ⟨BQ,2,none⟩=some (.int .i64 q2));obtain⟨n,hn,Q7⟩:∃n:Nat,q1 % 40=(n:Int)/\n<40:=⟨(q1 % 40).toNat,oM,oM⟩;obtain⟨j,hj,nY⟩:∃j:Nat,q2 % (k:Int)=(j:Int)/\j<k:=⟨(q2 % (k:Int)).toNat,by have:=Int.emod_nonneg q2 (show(k:Int)≠0 by omega);omega,by have:=Int.emod_nonneg q2 (show(k:Int)≠0 by omega);have:=Int.emod_lt_of_pos q2 (show(0:Int)<(k:Int) by omega);omega⟩;obtain⟨r,hr,D7⟩:∃r:Nat,q0 % 13=(r:Int)/\r<13:=⟨(q0 % 13).toNat,oM,oM⟩;have Jm:=Lib.hid (Int.ofNat_inj.1 (hr.symm.trans lC));clear lC;have Ah:(j:Int)<(k:Int):=oM;obtain⟨eb,eo,Q6,heq,Jn,-⟩:=hO.b.s0.some_ F3
   cases heq;have cV:=a5x q1 40 W9 cT jM jM;have fO:=a5x q2 (k:Int) W9 cU oM oM;have pI:=a5x q0 13 W9 df jM jM;rw[hn]at cV;rw[hj]at fO;rw[hr]at pI;go_upto_block 2 with(first
    |(go_at_call 77;(with_reducible refine cV.mono ?_);rintro e W'⟨rfl,rfl⟩)
    |(go_at_call 77;(with_reducible refine fO.mono ?_);rintro e W'⟨rfl,rfl⟩)
    |(go_at_call 77;(with_reducible refine pI.mono ?_);rintro e W'⟨rfl,rfl⟩))
   clear cV fO pI i0 i1 i2;go_cut [8,11] (λe f wx=>∃S ne' nf',O7 w S wx e f ne' nf' [(BQ,#[.int .i64 q0,.int .i64 q1,.int .i64 q2],23)]/\ne'<=k+1/\nf'<=nf+1)
   case rest =>
    obtain⟨S',ne',nf',gY,eP,iP⟩:=hcut;go_wp2_with fail;go_ret2;exact⟨_,_,_,_,_,rfl,gY.b.s0,gY.b.s1,eP,iP,gY.b.o.ev⟩
   case first =>
    have au:=λi ct h u hu=>hO.b.store a2g hO.b.s0 hO.oe j i ct h u hu
    have nu:CT.int.ok S9 W9 (.int .i64 0):=CT.ok_int jM;obtain⟨id,ll,rr,lv,m,c0,c1,c2,c3,f0,f2,f3,aJ,hm⟩:=SL.edge hO.b.tw hO.b.s0 nY;obtain⟨la,lc,rfl,eU⟩:=aJ.form;have z0:W9.frozen? ⟨eb,eo+j*4,none⟩=false:=(au 0 .int rfl _ nu).2;have z2:=(au 2 .int rfl _ nu).2;have z3:=(au 3 .int rfl _ nu).2;obtain rfl:=Jm.out;exact zCase):P:=h
end
end Go.Proofs.YtfocdbjceedagaaGreatDoor
