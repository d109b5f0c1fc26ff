/-
  Parts.
-/
import Derived.Test.YtfocdbjceedagaaGreatDoorMay
set_option linter.unusedVariables false
set_option linter.unusedSimpArgs false
set_option maxHeartbeats 4000000
set_option maxRecDepth 100000
namespace Go.Proofs.YtfocdbjceedagaaGreatDoor
open Tryz
section
open Go Go.RowKit Go.Shelf Go.Lib Go.Sort
attribute [local go_sem] Oper.semAt_some
attribute [local go_sem ↓] Go.wp_at_zero Go.wp_at_succ
theorem DeD.gr {q:Dt->Bool}{w:World}{blk N i j:Nat}{l:List Dt}{W:World}(h:DeD q w blk N l i j W):w.grownBy W (some blk):=by
 obtain⟨⟨d,h1,h2,h3⟩,h4,h5⟩:=h;exact h1.gr
theorem b9s (base:Nat)(v:Value)(l:List Dt)(B:Nat)(p k i0:Int)(w:World)(hl:l.length<=100000)(hBk:Blk w B #[.int .i64 p,.int .i64 k,.int .i64 i0] 68)(hrow:w.ownsRow base 54 4 v l.length (l.flatMap dtE.enc)) :
 Calls prog 108 #[v,.func (.func 110) #[] #[.pointer (some ⟨B,0,none⟩)]] w λe w'=>∃u,e= .returned u/\w'.ownsRow base 54 4 u (l.filter (λx=> !a5o k i0 x)).length ((l.filter (λx=> !a5o k i0 x)).flatMap dtE.enc)/\w.grownBy w' v.ownBlock/\u.ownBlock=v.ownBlock:=by
 rcases hrow.2 with⟨rfl,h0⟩|⟨g,cap,cur,rfl,hb,hg,h1,h2,h3,h4⟩
 ·obtain rfl:=List.eq_nil_of_length_eq_zero h0
  have hr2:=Lib.hid hrow;have c0:Calls prog 45 #[.slice none 0 0,.func (.func 110) #[] #[.pointer (some ⟨B,0,none⟩)]] w λe w'=>e= .returned (.int .i64 (-1))/\w=w':=by
   clear hrow h0 hr2;go_enter func45,ntmps45;exact ygs
  clear hrow h0;go_enter func108,ntmps108;go_wp2_with (go_at_call 45;refine c0.mono ?_;rintro e w1⟨rfl,rfl⟩);go_ret;exact⟨_,rfl,hr2.out,⟨rfl,rfl,rfl,yR _,λ_ _ _=>rfl⟩,rfl⟩
 ·obtain⟨hS,hbg⟩:=c6t hrow
  have hgl:g<w.heap.size:=hS.rb.lt;have c1:=a5l (.slice (some ⟨g,0,none⟩) l.length cap) l w (a0h a8a hrow oM) (a1p hrow) (a5o k i0) 110 #[.pointer (some ⟨B,0,none⟩)] (enters_of func110 zM rfl) (λX d hx=>(b0n d B p k i0 X (hBk.below hx hBk.lt)).mono λ_ _ ⟨he,h⟩=>⟨he,hx.trans (h.mono hx.size)⟩);have hgB:g≠B:=λe=>a0o hrow hBk jM (by rw[<-e];rfl)
  rcases d0d (a5o k i0) l with⟨hi,hfl⟩|⟨i,hi,hil,hft⟩
  ·rw[hi]at c1
   replace c1:Calls _ _ _ _ λe w'=>e= .returned (.int .i64 (-1))/\Below w.heap.size w w':=c1
   rw[hfl];have hr2:=Lib.hid hrow;clear hS hrow hg hfl hi h3 h4;go_enter func108,ntmps108;go_wp2_with (go_at_call 45;refine c1.mono ?_;rintro e w1⟨rfl,hb1⟩);go_ret;exact⟨_,rfl,a1e hr2.out hb1,⟨hb1.os,hb1.tape,hb1.output,hb1.size,λk hk _=>hb1.block k hk⟩,rfl⟩
  ·rw[hi]at c1
   replace c1:Calls _ _ _ _ λe w'=>e= .returned (.int .i64 (i:Nat))/\Below w.heap.size w w':=c1
   have hiI:((i:Int) == -1)=false:=by simp
   have hD0:DeD (a5o k i0) w g (cap*4) l i (i+1) w:=⟨⟨l.toArray,hS,by simpa using hft.symm,by simp⟩,oM,oM⟩;replace hD0:=Lib.hid hD0;clear hS hrow hg h3 h4 hft hi;have mixed:prog.follows .mixedOrders=true:=by kernel_rfl
   go_enter func108,ntmps108;go_wp2_with (go_at_call 45;refine c1.mono ?_;rintro e w1⟨rfl,hb1⟩);have hD1:=Lib.hid (hD0.out.below hb1);clear hD0 hb1 c1;go_loopw [5,6] (λvi vj wr=>∃i j:Nat,vi= .int .i64 (i:Nat)/\vj= .int .i64 (j:Nat)/\Hid (DeD (a5o k i0) w g (cap*4) l i j wr)) (λ_ vj _=>l.length-(intOf vj).toNat)
   case atStart=>exact⟨i,i+1,rfl,by go_num,hD1⟩
   case round =>
    clear hD1 hil hiI;obtain⟨i,j,rfl,rfl,HD⟩:=hrel;have hij:=HD.out.ij;have hjn:=HD.out.jn;by_cases hlt:j<l.length
    ·have hltI:(j:Int)<(l.length:Int):=oM
     have hiI2:(i:Int)<(l.length:Int):=oM;obtain⟨x,hx⟩:∃x,l[j]? =some x:=⟨_,List.getElem?_eq_getElem hlt⟩;obtain⟨a0,a1,a2,a3⟩:=HD.out.at_ hlt hx;obtain⟨q,hq⟩:=zE (a5o k i0 x);have hcl:∀W,w.grownBy W (some g)->Calls prog 110 #[dtV x,.pointer (some ⟨B,0,none⟩)] W λe w'=>e= .returned (.bool q)/\Below W.heap.size W w':=λW hg=>by rw[<-hq];exact b0n x B p k i0 W (hBk.kept hg λe=>by cases e;exact hgB rfl)
     have HX:Hid (l[j]? =some x/\a5o k i0 x=q):=⟨hx,hq⟩;clear hx hq;obtain⟨i1,x1,y1,d1⟩:=x;simp only[Nat.zero_add]at a0 a1 a2 a3;go_upto_region 8 with fail;have kX:=Blk.new wr #[.int .i64 i1,.int .i64 x1,.int .i64 y1,.int .i64 d1] 54;have hDX:=HD.out.below (show Below wr.heap.size wr (wr.alloc (.cells #[.int .i64 i1,.int .i64 x1,.int .i64 y1,.int .i64 d1] 54))from(zR _ _).alloc (yR _) _);have hgx:=HD.out.lt;obtain⟨BX,hBX⟩:=zE wr.heap.size;obtain⟨W1,hW1⟩:=zE (wr.alloc (.cells #[.int .i64 i1,.int .i64 x1,.int .i64 y1,.int .i64 d1] 54));rw[hW1]at kX hDX;rw[hW1];rw[hBX]at kX hgx;rw[hBX];have hgrX:=hDX.gr;clear hW1 hBX HD a0 a1 a2 a3;replace hDX:=Lib.hid hDX;have x0:W1.cell? ⟨BX,0,none⟩=some (.int .i64 i1):=kX.cell 0;have x1_:W1.cell? ⟨BX,1,none⟩=some (.int .i64 x1):=kX.cell 1;have x2:W1.cell? ⟨BX,2,none⟩=some (.int .i64 y1):=kX.cell 2;have x3:W1.cell? ⟨BX,3,none⟩=some (.int .i64 d1):=kX.cell 3
     cases q
     ·go_upto_region 9 with(first|(go_at_call 110;(with_reducible refine(hcl _ hgrX).mono ?_);rintro e w2⟨rfl,hb2⟩;have kX2:=kX.below hb2 kX.lt;have hD2:=Lib.hid (hDX.out.below hb2);clear hb2 x0 x1_ x2 x3)|fail)
      have x0:w2.cell? ⟨BX,0,none⟩=some (.int .i64 i1):=kX2.cell 0;have x1_:w2.cell? ⟨BX,1,none⟩=some (.int .i64 x1):=kX2.cell 1;have x2:w2.cell? ⟨BX,2,none⟩=some (.int .i64 y1):=kX2.cell 2;have x3:w2.cell? ⟨BX,3,none⟩=some (.int .i64 d1):=kX2.cell 3;obtain⟨f0,f1,f2,f3⟩:=hD2.out.fr (k:=i) oM;obtain⟨c1,c2⟩:=hD2.out.cell;have s0:=c1 (i*4) oM;have s1:=c1 (i*4+1) oM;have s2:=c1 (i*4+2) oM;have s3:=c1 (i*4+3) oM;have hK:=hD2.out.keep hlt HX.out.1 HX.out.2;rw[c6u]at hK;simp only[Nat.zero_add]at f0 f1 f2 f3 hK;obtain⟨v0,s0⟩:=Option.isSome_iff_exists.1 s0;obtain⟨v1,s1⟩:=Option.isSome_iff_exists.1 s1;obtain⟨v2,s2⟩:=Option.isSome_iff_exists.1 s2;obtain⟨v3,s3⟩:=Option.isSome_iff_exists.1 s3;have hwi:IntKind.i64.wrap ((i:Int)+1)=(i:Int)+1:=a0k oM oM;clear c1 c2 hD2 hDX kX kX2 hcl;replace hK:=Lib.hid hK;go_wp2_with fail;go_roundw
      case rel=>exact⟨i+1,j+1,by go_num,by go_num,hK⟩
      case measure=>first|(simp[intOf];done)|(simp[intOf];omega)
     ·go_wp2_with (first|(go_at_call 110;(with_reducible refine(hcl _ hgrX).mono ?_);rintro e w2⟨rfl,hb2⟩;have hD2:=Lib.hid (hDX.out.below hb2);clear hb2 x0 x1_ x2 x3)|fail)
      go_roundw
      case rel=>exact⟨i,j+1,by go_num,by go_num,Lib.hid (hD2.out.skip hlt HX.out.1 HX.out.2)⟩
      case measure=>first|(simp[intOf];done)|(simp[intOf];omega)
    ·obtain rfl:j=l.length:=oM
     have hgeI:¬(l.length:Int)<(l.length:Int):=oM;obtain⟨c1,c2⟩:=HD.out.cell;have hiI3:(i:Int)<=(l.length:Int):=oM;obtain⟨vs,hvs,hcr⟩:=b9r wr g (i*4) (l.length-i) (cap-i) 0 oM (λt ht=>c1 _ oM) (λt ht=>c2 _ oM);clear c1 c2;have hiC:(i:Int)<=(cap:Int):=oM;have hend:=Lib.hid (HD.out.done hb h1 h2 vs hvs);go_wp2_with fail;go_ret;obtain⟨-,e2,e3⟩:=hend.out;rw[Nat.zero_add]at e2 e3;exact⟨_,rfl,e2,e3,rfl⟩
end
section
open Go Go.RowKit Go.Shelf Go.Lib Go.Maps
def c3d (Bm:Nat)(W:World)(k:Nat):Prop:=(∃o,W.heap[k]? =some o/\a6q o=false)/\k=Bm
theorem c3e {Bm:Nat}{W:World}{k:Nat}(h:c3d Bm W k):k<W.heap.size:=by
 exact yhm
theorem b6w (Bm:Nat)(W:World)(l:Nat)(o:Obj)(h:W.heap[l]? =some o)(ho:a6q o=true):¬c3d Bm W l:=by
 exact yhj
theorem d3u (Bm:Nat)(W:World)(l k:Nat)(o o':Obj)(h:W.heap[l]? =some o)(ho:a6q o=true)(ho':a6q o'=true):c3d Bm (W.putObj l o') k↔c3d Bm W k:=by
 have hlt:l<W.heap.size:=(Array.getElem?_eq_some_iff.1 h).1;have hl':(W.putObj l o').heap[l]? =some o':=World.putObj_heap_same hlt;by_cases hk:k=l
 ·subst hk
  exact⟨λhc=>absurd hc (b6w Bm _ k o' hl' ho'),λhc=>absurd hc (b6w Bm W k o h ho)⟩
 ·have e1:(W.putObj l o').heap[k]? =W.heap[k]? :=World.putObj_heap_other hk
  unfold c3d;simp only[e1]
theorem c6v (Bm:Nat)(W:World)(k:Nat)(o:Obj)(h:c3d Bm (W.alloc o) k)(ho:a6q o=true):c3d Bm W k:=by
 have hnew:(W.alloc o).heap[W.heap.size]? =some o:=World.alloc_heap_new W o;have hk:k≠W.heap.size:=λe=>b6w Bm _ k o (by rw[e];exact hnew) ho h
 have hlt:=c3e h;rw[World.size_alloc]at hlt;have e1:(W.alloc o).heap[k]? =W.heap[k]? :=Below.heap_alloc W o k oM;obtain⟨⟨o',h1,h2⟩,h3⟩:=h;exact⟨⟨o',e1.symm.trans h1,h2⟩,h3⟩
structure RRr (n0:Nat)(w:World)(Bm:Nat)(L:List (Nat×Array Value×TypeId))(m:Nat)(en:List (Int×Bool))(W:World):Prop where
 mp:MapK prog idK boV W Bm m en
 o:∀q∈L,Blk W q.1 q.2.1 q.2.2
 ne:∀q∈L,q.1≠Bm
 bm:n0<=Bm
 bel:Below n0 w W
 nw:n0<=w.heap.size
section
variable {n0 Bm m:Nat}{w W W':World}{L:List (Nat×Array Value×TypeId)}{en:List (Int×Bool)}
theorem RRr.hz (h:RRr n0 w Bm L m en W):n0<=W.heap.size:=Nat.le_trans h.nw h.bel.size
theorem RRr.cm (h:RRr n0 w Bm L m en W):c3d Bm W Bm:=by
 obtain⟨D,⟨es,clock,he,-⟩,-⟩:=h.mp;exact⟨⟨_,he,rfl⟩,rfl⟩
theorem RRr.turn (h:RRr n0 w Bm L m en W){Z:Nat}(hz:n0<=Z)(hL:∀q∈L,q.1<Z){row:Option Nat}(hg:W.grownBy W' row)(hr:∀r,row=some r->Z<=r/\¬c3d Bm W r):RRr n0 w Bm L m en W' :=
 ⟨h.mp.kept hg (λe=>(hr Bm e).2 h.cm),λq hq=>(h.o q hq).kept hg (λe=>by have:=(hr _ e).1;have:=hL q hq;omega),h.ne,h.bm,h.bel.grown hg h.hz λr e=>Nat.le_trans hz (hr r e).1,h.nw⟩
theorem RRr.mine (h:RRr n0 w Bm L m en W){k:Nat}(hc:c3d Bm W' k):c3d Bm W k:=by
 obtain⟨-,rfl⟩:=hc;exact h.cm
theorem RRr.below (h:RRr n0 w Bm L m en W)(hb:Below W.heap.size W W'):RRr n0 w Bm L m en W' :=
 ⟨h.mp.below hb h.mp.lt,λq hq=>(h.o q hq).below hb (h.o q hq).lt,h.ne,h.bm,h.bel.trans (hb.mono h.hz),h.nw⟩
theorem RRr.keepP (h:RRr n0 w Bm L m en W)(hb:Below W.heap.size W W'):KeepP (c3d Bm) n0 W W' :=
 ⟨⟨hb.size,λk hk _=>hb.block k hk,λk hc=> .inl (h.mine hc)⟩,hb.mono h.hz⟩
theorem RRr.set (h:RRr n0 w Bm L m en W){m':Nat}{en':List (Int×Bool)}(hm:MapK prog idK boV W' Bm m' en')(hg:W.grownBy W' (some Bm)):RRr n0 w Bm L m' en' W'/\KeepP (c3d Bm) n0 W W' :=
 ⟨⟨hm,λq hq=>(h.o q hq).kept hg (λe=>h.ne q hq (by cases e;rfl)),h.ne,h.bm,h.bel.grown hg h.hz λr e=>by cases e;exact h.bm,h.nw⟩,
  ⟨⟨hg.size,λk hk hn=>hg.block k hk λe=>hn (by cases e;exact h.cm),λk hc=> .inl (h.mine hc)⟩,(show Below n0 W W from zR _ _).grown hg h.hz λr e=>by cases e;exact h.bm⟩⟩
end
abbrev crN (s:Sh)(pl:Pn)(qs:List Pc):Option (List Int):=qs.foldlM (a4k s.g (pfS s) pl) []
theorem d3v (s:Sh)(pl:Pn)(qs:List Pc)(p:Pc):crN s pl (qs++[p])=(crN s pl qs).bind λst=>a4k s.g (pfS s) pl st p:=by
 unfold crN;rw[List.foldlM_append]
 cases h:List.foldlM (a4k s.g (pfS s) pl) [] qs <;> simp
theorem d3w (s:Sh)(pl:Pn)(qs rs:List Pc)(p:Pc)(h:crN s pl (qs++[p])=none):crN s pl (qs++p::rs)=none:=by
 unfold crN at h ⊢;rw[show qs++p::rs=(qs++[p])++rs by simp,List.foldlM_append,h];rfl
def RC (n0:Nat)(w:World)(Bm:Nat)(L:List (Nat×Array Value×TypeId))(s:Sh)(pl:Pn)(pre:List (Pc×Value))(W:World):Prop :=
 ∃m en st,crN s pl (pre.map Prod.fst)=some st/\m<=pre.length/\SetI en st/\RRr n0 w Bm L m en W
end
section
open Go Go.RowKit Go.Shelf Go.Lib Go.Maps
attribute [local go_sem] Oper.semAt_some
attribute [local go_sem ↓] Go.wp_at_zero Go.wp_at_succ
theorem d8t {pl:Pn}{id:Int}{k:Nat}(h:why pl id=some k):∃hk:k<pl.left.length,pl.left[k]? =some pl.left[k]:=by
 unfold why at h;obtain⟨hk,-⟩:=List.findIdx?_eq_some_iff_getElem.1 h;exact⟨hk,List.getElem?_eq_getElem hk⟩
section
variable {g:Int}{pf:Pc->Bool×List Dt}{pl:Pn}{bef:List Int}{p:Pc}
theorem d0e (h:why pl p.id=none):a4k g pf pl bef p=some (p.id::bef):=by
 unfold a4k;rw[h];rfl
theorem d0f (h:p.id∈bef):a4k g pf pl bef p=some (p.id::bef):=by
 unfold a4k;split
 ·rfl
 ·rw[if_pos h]
theorem c3f {k:Nat}{l:Lf}(h:why pl p.id=some k)(hl:pl.left[k]? =some l)(hn:p.id∉bef):a4k g pf pl bef p=if c1l g pf pl bef p l then some (p.id::bef)else none:=by
 unfold a4k;rw[h,Option.bind_some,hl];simp only;rw[if_neg hn]
theorem d0g {l:Lf}(h:l.k=0/\l.i=0):c1l g pf pl bef p l= !(pf p).1:=by
 unfold c1l;rw[if_pos h]
theorem d3x {l:Lf}(h:¬(l.k=0/\l.i=0)):c1l g pf pl bef p l=((pf p).1&&(decide (l.k=2)||(decide (l.k=3)&&decide (l.i≠p.id)&&decide (l.i∈p.id::bef)))&&(a6f g (pl.dots.filter λd=> !a5o l.k l.i d) (pf p).2).isSome):=by
 unfold c1l;rw[if_neg h,show(λd:Dt=> !a5o l.k l.i d)=(λd=>decide (d.k=l.k)&&decide (d.i=l.i))from funext λd=>by unfold a5o;simp]
end
theorem c3g (s:Sh)(f0:fits s.ax)(f1:fits s.ay)(hs:a1g s=0)(ev fv wv pv dv kv lv:Value)(l:List Pc)(pl:Pn)(w:World)(hL:Lst plE w.heap.size w pv l)(hF:Frm pv l.length)(hl:l.length<=100)(hok:∀p∈l,PcOk p/\p.cls.size<=1000)
 (hPow:∀W,Below w.heap.size w W->Pow W) (hd:Lst dtE w.heap.size w dv pl.dots) (hdf:Frm dv pl.dots.length) (hsm:∀d∈pl.dots,Sm d) (hpl:pl.dots.length<=10000) (hlf:Lst lfE w.heap.size w lv pl.left) (hff:Frm lv pl.left.length) (hfi:∀x∈pl.left,fits x.i) :
 Calls prog 51 #[b7q ev fv wv pv,shV s,a3s dv kv lv] w λe w'=>(a3n s.g (pfS s) pl (a0t l)=true/\e= .returned (.tuple #[])\/a3n s.g (pfS s) pl (a0t l)=false/\e= .panicked (c2s 42))/\Below w.heap.size w w':=by
 have hsk:=a4h hs;obtain⟨pa,pc,rfl,-⟩:=hL.form;obtain⟨da,dc,rfl,-⟩:=hd.form;obtain⟨la,lc,rfl,-⟩:=hlf.form;have hCa:=λw4=>a4t s ev fv wv (.slice pa l.length pc) w4
 refine(callsIn_wide (n:=3)).1 ?_;refine a8u (f:=51) func51 rfl trivial rfl ?_;simp only[ntmps51,List.size_toArray,List.length_cons,List.length_nil,Nat.reduceAdd,Nat.reduceSub,Array.replicate_succ,Array.replicate_zero,List.push_toArray,List.append_toArray,List.nil_append,List.cons_append];refine AtFn.seq (AtFn.of (wpIn_wide.2 ?_));go_wp2_with fail;have k1:=((Blk.new w #[ev,fv,wv,.slice pa l.length pc] 37).alloc (.cells #[.int .i64 s.ax,.int .i64 s.ay,.int .i64 s.st,.int .i64 s.w,.int .i64 s.h,.int .i64 s.g] 28)).alloc (.cells #[.slice da pl.dots.length dc,kv,.slice la pl.left.length lc] 45);have k2:=(Blk.new (w.alloc (.cells #[ev,fv,wv,.slice pa l.length pc] 37)) #[.int .i64 s.ax,.int .i64 s.ay,.int .i64 s.st,.int .i64 s.w,.int .i64 s.h,.int .i64 s.g] 28).alloc (.cells #[.slice da pl.dots.length dc,kv,.slice la pl.left.length lc] 45);have k3:=Blk.new ((w.alloc (.cells #[ev,fv,wv,.slice pa l.length pc] 37)).alloc (.cells #[.int .i64 s.ax,.int .i64 s.ay,.int .i64 s.st,.int .i64 s.w,.int .i64 s.h,.int .i64 s.g] 28)) #[.slice da pl.dots.length dc,kv,.slice la pl.left.length lc] 45;have hw1:Below w.heap.size w (((w.alloc (.cells #[ev,fv,wv,.slice pa l.length pc] 37)).alloc (.cells #[.int .i64 s.ax,.int .i64 s.ay,.int .i64 s.st,.int .i64 s.w,.int .i64 s.h,.int .i64 s.g] 28)).alloc (.cells #[.slice da pl.dots.length dc,kv,.slice la pl.left.length lc] 45)):=(((zR _ _).alloc (yR _) _).alloc vM _).alloc uM _;obtain⟨W1,hW1⟩:=zE (((w.alloc (.cells #[ev,fv,wv,.slice pa l.length pc] 37)).alloc (.cells #[.int .i64 s.ax,.int .i64 s.ay,.int .i64 s.st,.int .i64 s.w,.int .i64 s.h,.int .i64 s.g] 28)).alloc (.cells #[.slice da pl.dots.length dc,kv,.slice la pl.left.length lc] 45));have hz1:W1.heap.size=w.heap.size+1+1+1:=by rw[<-hW1];simp
 simp only[World.size_alloc]at k1 k2 k3;rw[hW1]at k1 k2 k3 hw1 ⊢;clear hW1;replace hz1:=Lib.hid hz1;have hmm:= @run_makeMap prog;refine AtFn.seq (AtFn.of (wpIn_wide.2 ?_));go_wp2_with fail;clear hmm;refine AtFn.seq (AtFn.of (wpIn_wide.2 ?_));have hkm:=(MapK.made prog idK boV W1).alloc (.cells #[.map (some W1.heap.size)] 169);have hkl:=Blk.new (W1.alloc (.map #[] 0)) #[.map (some W1.heap.size)] 169;have hb24:Below W1.heap.size W1 ((W1.alloc (.map #[] 0)).alloc (.cells #[.map (some W1.heap.size)] 169)):=((zR _ _).alloc (yR _) _).alloc vM _;simp only[World.size_alloc]at hkl;obtain⟨W4,hW4⟩:=zE ((W1.alloc (.map #[] 0)).alloc (.cells #[.map (some W1.heap.size)] 169));have hz4:W4.heap.size=W1.heap.size+1+1:=by rw[<-hW4];simp
 rw[hW4]at hkm hkl hb24 ⊢;clear hW4;replace hz1:=hz1.out;have kl1:=k2.below hb24 k2.lt;have kl2:=k3.below hb24 k3.lt;have km1:=k1.below hb24 k1.lt;have hw4:Below w.heap.size w W4:=hw1.trans (hb24.mono hw1.size);obtain⟨Bm,hBm⟩:=zE W1.heap.size;rw[hBm]at hkm hkl hz4 hz1 ⊢;have hD0:RRr w.heap.size w Bm (a3t s w.heap.size (Bm+1) Bm (.slice da pl.dots.length dc) kv (.slice la pl.left.length lc)) 0 [] W4:=⟨hkm,a4a kl1 kl2 hkl,a4a (by simp only;omega) (by simp only;omega) (by simp only;omega),oM,hw4,yR _⟩;obtain⟨m0,m1,m2,m3⟩:=zN4 km1;obtain⟨s0,s1,s2,s3,s4,s5⟩:=zN6 kl1;go_wp2_with (first
  |(go_at_call 35;(with_reducible refine(hCa _).mono ?_);rintro e W5⟨rfl,km,ks,hb5⟩))
 rw[hz4]at km ks hb5;have hw5:Below w.heap.size w W5:=hw4.trans (hb5.mono (by have:=hw4.size;omega));have hD5:=hD0.below (by rw[hz4];exact hb5);have hz5:=hb5.size;clear hD0 m0 m1 m2 m3 s0 s1 s2 s3 s4 s5 k1 k2 k3 kl1 kl2 km1 hkm hkl hb24 hCa hw1 hBm;have hZ:∀q∈(a3t s w.heap.size (Bm+1) Bm (.slice da pl.dots.length dc) kv (.slice la pl.left.length lc)),q.1<W5.heap.size:=a4a (by simp only;omega) (by simp only;omega) (by simp only;omega);have hseq:=b6n 2 oM s f0 f1 ev fv wv (.slice pa l.length pc) l hl hok (c3d Bm) w.heap.size W5 (Bm+1+1) (Bm+1+1+1) km ks (hL.up hw5) hF hw5.size
  (λW k hb hc=>by
   obtain⟨-,rfl⟩:=hc;exact⟨oM,oM⟩)
  (λW hb=>hPow W (hw5.trans (hb.mono (yR _))))
 have hBlt:w.heap.size+1+1<Bm:=oM;have hBW5:Bm+1+1+1<W5.heap.size:=ks.lt;rw[<-hz1];clear hz1 hz4 hz5 hb5 hw4;refine AtFn.block ?_;refine a7m (α:=Pc×Value) 18 7 (λx=>d8l s x) rfl oM rfl trivial (enters_of func84 zM rfl) (d3u Bm) (b6w Bm) (c6v Bm) (λk=>c3e) (n0:=w.heap.size) hw5.size (Kx:=KxC s (a0t l)) (λpre x W l o o' h1 h2 h3=>KxC.put h1 (a1o h2) (a1o h3)) (S:=λxs=>xs.map Prod.fst=a0t l) (N:=101) (w0:=W5) hseq (zR _ _)
  (λpre W=>RC w.heap.size w Bm (a3t s w.heap.size (Bm+1) Bm (.slice da pl.dots.length dc) kv (.slice la pl.left.length lc)) s pl pre W) ?hI ?hIC ?h0 (λch W=>ch=c2s 42/\a3n s.g (pfS s) pl (a0t l)=false/\Below w.heap.size w W) ⟨_,func51⟩ trivial 92 (λx=> #[.int .i64 x.1.id,.int .i64 x.1.x,.int .i64 x.1.y,.string x.1.cls,.string x.1.nm,.int .i64 x.1.wt,.int .i64 x.1.ds,x.2,.bool (pfS s x.1).1]) (λpre x W o h=>h.alloc o) (λpre W k h hc=>c3e hc) ?assign ?body ?hpan ?done
 case hI =>
  rintro pre A A' row⟨m,en,st,h1,h2,h5,h6⟩ hg hr;exact⟨m,en,st,h1,h2,h5,h6.turn hw5.size hZ hg hr⟩
 case hIC =>
  rintro pre A A' row k⟨m,en,st,h1,h2,h5,h6⟩ hg hr hc;exact h6.mine hc
 case h0=>exact⟨0,[],[],rfl,yR _,SetI.nil,hD5⟩
 case assign =>
  exact ycp
 case body =>
  clear hseq km ks hD5;rintro ly pre⟨⟨id,x,y,cls,nm,wt,ds⟩,xv⟩ W B ⟨m,en,st,hcn,hm,hset,hD⟩ ⟨⟨rs,hsp⟩,hdl,hdfl⟩ hB hBge hBne hlt;have hpm:(⟨id,x,y,cls,nm,wt,ds⟩:Pc)∈a0t l:=by rw[hsp];simp
  obtain⟨hpo,hpc⟩:=hok _ ((a1c l).mem_iff.1 hpm);have hst:crN s pl ((pre++[((⟨id,x,y,cls,nm,wt,ds⟩:Pc),xv)]).map Prod.fst)=a4k s.g (pfS s) pl st ⟨id,x,y,cls,nm,wt,ds⟩:=by
   rw[List.map_append];refine(d3v s pl (pre.map Prod.fst) _).trans ?_;rw[hcn];rfl
  have hno:a4k s.g (pfS s) pl st ⟨id,x,y,cls,nm,wt,ds⟩=none->a3n s.g (pfS s) pl (a0t l)=false:=λh=>by
   rw[h,List.map_append]at hst;have h2:=d3w s pl (pre.map Prod.fst) rs _ hst;unfold a3n;have h3:List.foldlM (a4k s.g (pfS s) pl) [] (a0t l)=none:=by rw[hsp];exact h2
   rw[h3];rfl
  clear hsp;have hkr:KeepP (c3d Bm) w.heap.size W W:=⟨⟨yR _,λ_ _ _=>rfl,λk hc=> .inl hc⟩,zR _ _⟩;have hWy:=c2t (.slice da pl.dots.length dc) kv (.slice la pl.left.length lc) pl id W (hlf.up hD.bel) hff;have hdsm:∀d∈(pfS s ⟨id,x,y,cls,nm,wt,ds⟩).2,Sm d:=λd hd=>d3g hsk (d3h s _ d hd)
  have hpl33:=b2z s ⟨id,x,y,cls,nm,wt,ds⟩;have hcr0:= @d0g s.g (pfS s) pl st ⟨id,x,y,cls,nm,wt,ds⟩;have hcr1:= @d3x s.g (pfS s) pl st ⟨id,x,y,cls,nm,wt,ds⟩;have hcs:= @c3f s.g (pfS s) pl st ⟨id,x,y,cls,nm,wt,ds⟩;have hci:= @d0f s.g (pfS s) pl st ⟨id,x,y,cls,nm,wt,ds⟩;have hcn0:= @d0e s.g (pfS s) pl st ⟨id,x,y,cls,nm,wt,ds⟩;obtain⟨⟨on,dl⟩,hpf⟩:∃r,pfS s ⟨id,x,y,cls,nm,wt,ds⟩=r:=⟨_,rfl⟩;simp only[hpf]at hB hdl hdfl hpl33 hdsm hcr0 hcr1;obtain⟨xa,xc,rfl,-⟩:=hdl.form;have hzW:=hD.hz;have b0:W.cell? ⟨B,0,none⟩=some (.int .i64 id):=hB.cell 0;have hP0:Blk W (w.heap.size+1+1) #[.slice da pl.dots.length dc,kv,.slice la pl.left.length lc] 45:=hD.o (w.heap.size+1+1,#[.slice da pl.dots.length dc,kv,.slice la pl.left.length lc],45) (by unfold a3t;simp);obtain⟨q0,q1,q2⟩:=zN3 hP0;obtain⟨kz,hkz⟩:=zE (b2b (why pl id));rw[hkz]at hWy;gi_upto_region 5 with(first
   |(refine⟨trivial,?_⟩;gi_at_call 107;refine(CallsIn.inRound ly (callsIn_wide.2 hWy)).mono ?_;rintro e w8⟨rfl,hb8⟩))
  have hD8:=hD.below hb8;have hk8:=hkr.trans (hD.keepP hb8);have hB8:=hB.below hb8 hB.lt;have hdl8:=hdl.up hb8;have hz8:=hb8.size;clear b0 hP0 q0 q1 q2 hWy hD hdl hb8 hkr;have b0:w8.cell? ⟨B,0,none⟩=some (.int .i64 id):=hB8.cell 0;have hLl:Blk w8 (Bm+1) #[.map (some Bm)] 169:=hD8.o (Bm+1,#[.map (some Bm)],169) (by unfold a3t;simp);have l0:w8.cell? ⟨Bm+1,0,none⟩=some (.map (some Bm)):=hLl.cell 0;have hLk:=c3a hD8.mp hpo.id;rw[hset id]at hLk;clear hLl;by_cases hgo:why pl id=none\/id∈st
  ·have hst':crN s pl ((pre++[((⟨id,x,y,cls,nm,wt,ds⟩:Pc),Value.slice xa dl.length xc)]).map Prod.fst)=some (id::st):=by
    rcases hgo with h|h
    ·rw[hst,hcn0 h]
    ·rw[hst,hci h]
   rcases hgo with h|h
   ·rw[h]at hkz
    subst hkz;clear hno hst hcr0 hcr1 hcs hci hcn0 h;simp only[b2b];gi_wp2_with (first
     |(gi_at_mapUpdate;refine MapK.wpIn_store d9g qM _ _ _ 169 qM underlying169 qM hD8.mp oK hpo.id qM (y:=true) qM (plainElem_bool underlying4 true) ?_;intro w7 hM7 hg7
       obtain⟨hD7,hk7⟩:=hD8.set hM7 hg7))
    exact⟨hk8.trans hk7,m+1,_,_,hst',by simp;omega,hset.put id,hD7⟩
   ·rw[decide_eq_true h]at hLk
    by_cases hneg:kz<0
    ·exact ycz
    ·exact ycz
  ·obtain⟨hwn,hin⟩:=not_or.1 hgo
   obtain⟨k,hwk⟩:=Option.ne_none_iff_exists'.1 hwn;rw[decide_eq_false hin]at hLk;obtain⟨hkl,hlk⟩:=d8t hwk;rw[hwk]at hkz;subst hkz;simp only[b2b];obtain⟨⟨lp,lk,li⟩,hlv⟩:∃x,pl.left[k]=x:=⟨_,rfl⟩;rw[hlv]at hlk;have hfi':fits li:=by have:=hfi _ (List.getElem_mem hkl);rw[hlv]at this;exact this
   have hF:c1l s.g (pfS s) pl st ⟨id,x,y,cls,nm,wt,ds⟩ ⟨lp,lk,li⟩=false->a3n s.g (pfS s) pl (a0t l)=false:=λh=>hno (by rw[hcs hwk hlk hin,h];rfl)
   have hT:c1l s.g (pfS s) pl st ⟨id,x,y,cls,nm,wt,ds⟩ ⟨lp,lk,li⟩=true->crN s pl ((pre++[((⟨id,x,y,cls,nm,wt,ds⟩:Pc),Value.slice xa dl.length xc)]).map Prod.fst)=some (id::st):=λh=>by rw[hst,hcs hwk hlk hin,h];rfl
   replace hcr0:= @hcr0 ⟨lp,lk,li⟩;replace hcr1:= @hcr1 ⟨lp,lk,li⟩;simp only at hcr0 hcr1;have hk0:¬((k:Nat):Int)<0:=oM;clear hno hst hcs hci hcn0 hgo hwn hwk hlk hcn hin;gi_upto_region 8 with(first
    |(gi_at_mapUpdate;refine MapK.wpIn_store d9g qM _ _ _ 169 qM underlying169 qM hD8.mp oK hpo.id qM (y:=true) qM (plainElem_bool underlying4 true) ?_;intro w7 hM7 hg7))
   obtain⟨hD7,hk7⟩:=hD8.set hM7 hg7;replace hk7:=hk8.trans hk7;have hB7:=(hk7.k.same B hB.lt (λh=>hBne _ h rfl)).trans hB;replace hB7:Blk w7 B _ _:=hB7;have hdl7:=d0c hdl8 hg7 hD8.mp;have hset7:=hset.put id;have hP7:Blk w7 (w.heap.size+1+1) #[.slice da pl.dots.length dc,kv,.slice la pl.left.length lc] 45:=hD7.o (w.heap.size+1+1,#[.slice da pl.dots.length dc,kv,.slice la pl.left.length lc],45) (by unfold a3t;simp);obtain⟨q0,q1,q2⟩:=zN3 hP7;obtain⟨lb,loff,lcap,hv,-,hlb,hlc⟩:=(hlf.up hD7.bel).some_ oM;simp only[Value.slice.injEq,true_and]at hv;obtain⟨rfl,rfl⟩:=hv;have hck:=hlc k hkl;rw[hlv]at hck;obtain⟨c0,c1,c2⟩:w7.cell? ⟨lb,loff+k*3,none⟩=some (.int .i64 lp)/\w7.cell? ⟨lb,loff+k*3+1,none⟩=some (.int .i64 lk)/\w7.cell? ⟨lb,loff+k*3+2,none⟩=some (.int .i64 li):=⟨hck 0 (show 0<3 by decide),hck 1 (show 1<3 by decide),hck 2 (show 2<3 by decide)⟩;have hkI:(k:Int)<(pl.left.length:Int):=oM;clear b0 l0 hLk hM7 hg7 hlv hck hlc hP7 hset hD8 hk8 hB8 hB hdl8;gi_upto_region 9 with fail
   have kX:=Blk.new w7 #[.int .i64 lp,.int .i64 lk,.int .i64 li] 68;have hb79:Below w7.heap.size w7 (w7.alloc (.cells #[.int .i64 lp,.int .i64 lk,.int .i64 li] 68)):=(zR _ _).alloc (yR _) _;have hD9:=hD7.below hb79;have hk9:=hk7.trans (hD7.keepP hb79);have hB9:=hB7.below hb79 hB7.lt;have hdl9:=hdl7.up hb79;obtain⟨BX,hBX⟩:=zE w7.heap.size;obtain⟨w9,hw9⟩:=zE (w7.alloc (.cells #[.int .i64 lp,.int .i64 lk,.int .i64 li] 68));rw[hw9]at kX hD9 hk9 hB9 hdl9;rw[hw9];rw[hBX]at kX;rw[hBX];clear hw9 hBX c0 c1 c2 q0 q1 q2 hD7 hk7 hB7 hdl7 hb79 hkI hk0;obtain⟨x0,x1,x2⟩:=zN3 kX;have r0:w9.cell? ⟨B,0,none⟩=some (.int .i64 id):=hB9.cell 0;have r7:w9.cell? ⟨B,7,none⟩=some (.slice xa dl.length xc):=hB9.cell 7;have r8:w9.cell? ⟨B,8,none⟩=some (.bool on):=hB9.cell 8;have hLl:Blk w9 (Bm+1) #[.map (some Bm)] 169:=hD9.o (Bm+1,#[.map (some Bm)],169) (by unfold a3t;simp);have l0:w9.cell? ⟨Bm+1,0,none⟩=some (.map (some Bm)):=hLl.cell 0;by_cases hz0:lk=0/\li=0
   ·have hc:=hcr0 hz0
    have hl0:(lk==0)=true:=by simpa using hz0.1
    have hi0:(li==0)=true:=by simpa using hz0.2
    clear hz0 hcr0 hcr1
    cases on
    ·gi_wp2_with (first
      |(refine⟨trivial,?_⟩;gi_at_call 106;refine(CallsIn.inRound ly (callsIn_wide.2 (a3d 42 _))).mono ?_;rintro e w10⟨rfl,rfl⟩))
     first|exact⟨hk9,m+1,_,_,hT hc,by simp;omega,hset7,hD9⟩|exact⟨m+1,_,_,hT hc,by simp;omega,hset7,hD9⟩
    ·gi_wp2_with (first
      |(refine⟨trivial,?_⟩;gi_at_call 106;refine(CallsIn.inRound ly (callsIn_wide.2 (a2u 42 _))).mono ?_;rintro e w10⟨rfl,rfl⟩))
     first|exact⟨hF hc,hD9.bel⟩|exact hD9.bel
   ·have hc:=hcr1 hz0
    have hi0:lk=0->(li==0)=false:=λh=>by
     have:li≠0:=λh'=>hz0 ⟨h,h'⟩
     simpa using this
    clear hz0 hcr0 hcr1;by_cases h0:lk=0
    ·have hi0':=hi0 h0
     have hl0:(lk==0)=true:=by simpa using h0
     have hl2:(lk==2)=false:=by rw[h0];rfl
     have hl3:(lk==3)=false:=by rw[h0];rfl
     have hc':c1l s.g (pfS s) pl st ⟨id,x,y,cls,nm,wt,ds⟩ ⟨lp,lk,li⟩=false:=by rw[hc,h0];simp
     clear hi0 h0 hc hT
     cases on
     ·gi_wp2_with (first
       |(refine⟨trivial,?_⟩;gi_at_call 106;refine(CallsIn.inRound ly (callsIn_wide.2 (a2u 42 _))).mono ?_;rintro e w10⟨rfl,rfl⟩))
      exact yff
     ·gi_wp2_with (first
       |(refine⟨trivial,?_⟩;gi_at_call 106;refine(CallsIn.inRound ly (callsIn_wide.2 (a2u 42 _))).mono ?_;rintro e w10⟨rfl,rfl⟩))
      exact yff
    ·have hl0:(lk==0)=false:=by simpa using h0
     clear hi0
     cases on
     ·have hc':c1l s.g (pfS s) pl st ⟨id,x,y,cls,nm,wt,ds⟩ ⟨lp,lk,li⟩=false:=by rw[hc];rfl
      clear h0 hc hT;gi_wp2_with (first
       |(refine⟨trivial,?_⟩;gi_at_call 106;refine(CallsIn.inRound ly (callsIn_wide.2 (a2u 42 _))).mono ?_;rintro e w10⟨rfl,rfl⟩))
      exact yff
     ·by_cases h2:lk=2
      ·have hl2:(lk==2)=true:=by simpa using h2
       have hc2:c1l s.g (pfS s) pl st ⟨id,x,y,cls,nm,wt,ds⟩ ⟨lp,lk,li⟩=(a6f s.g (pl.dots.filter λd=> !a5o lk li d) dl).isSome:=by rw[hc,decide_eq_true h2];simp
       clear h0 h2 hc;gi_upto_region 12 with(first
        |(refine⟨trivial,?_⟩;gi_at_call 106;refine(CallsIn.inRound ly (callsIn_wide.2 (a3d 42 _))).mono ?_;rintro e w9⟨rfl,rfl⟩))
       exact yaf
      ·have hl2:(lk==2)=false:=by simpa using h2
       by_cases h3:lk=3
       ·have hl3:(lk==3)=true:=by simpa using h3
        by_cases hid:li=id
        ·have hid':(li != id)=false:=by simpa using hid
         have hc':c1l s.g (pfS s) pl st ⟨id,x,y,cls,nm,wt,ds⟩ ⟨lp,lk,li⟩=false:=by rw[hc,decide_eq_false h2];simp[hid]
         clear h0 h2 h3 hid hc hT;gi_wp2_with (first
          |(refine⟨trivial,?_⟩;gi_at_call 106;refine(CallsIn.inRound ly (callsIn_wide.2 (a2u 42 _))).mono ?_;rintro e w10⟨rfl,rfl⟩))
         exact yff
        ·have hid':(li != id)=true:=by simpa using hid
         have hLk:=c3a hD9.mp hfi';rw[hset7 li]at hLk;by_cases hme:li∈id::st
         ·rw[decide_eq_true hme]at hLk
          have hc2:c1l s.g (pfS s) pl st ⟨id,x,y,cls,nm,wt,ds⟩ ⟨lp,lk,li⟩=(a6f s.g (pl.dots.filter λd=> !a5o lk li d) dl).isSome:=by rw[hc,decide_eq_true h3,decide_eq_true hme,decide_eq_true hid];simp
          clear h0 h2 h3 hid hme hc;gi_upto_region 12 with(first
           |(refine⟨trivial,?_⟩;gi_at_call 106;refine(CallsIn.inRound ly (callsIn_wide.2 (a3d 42 _))).mono ?_;rintro e w9⟨rfl,rfl⟩))
          exact yaf
         ·rw[decide_eq_false hme]at hLk
          have hc':c1l s.g (pfS s) pl st ⟨id,x,y,cls,nm,wt,ds⟩ ⟨lp,lk,li⟩=false:=by rw[hc,decide_eq_false h2,decide_eq_false hme];simp
          clear h0 h2 h3 hid hme hc hT;gi_wp2_with (first
           |(refine⟨trivial,?_⟩;gi_at_call 106;refine(CallsIn.inRound ly (callsIn_wide.2 (a2u 42 _))).mono ?_;rintro e w10⟨rfl,rfl⟩))
          exact yff
       ·have hl3:(lk==3)=false:=by simpa using h3
        have hc':c1l s.g (pfS s) pl st ⟨id,x,y,cls,nm,wt,ds⟩ ⟨lp,lk,li⟩=false:=by rw[hc,decide_eq_false h2,decide_eq_false h3];simp
        clear h0 h2 h3 hc hT;gi_wp2_with (first
         |(refine⟨trivial,?_⟩;gi_at_call 106;refine(CallsIn.inRound ly (callsIn_wide.2 (a2u 42 _))).mono ?_;rintro e w10⟨rfl,rfl⟩))
        exact yff
 case hpan =>
  exact yek
 case done =>
  rintro D xs W hDs hS⟨m,en,st,h1,-,-,h6⟩ hK;rw[hS]at h1;have hcf:a3n s.g (pfS s) pl (a0t l)=true:=by
   unfold a3n;have h1':List.foldlM (a4k s.g (pfS s) pl) [] (a0t l)=some st:=h1;rw[h1'];rfl
  have hg1:=grownBy_putObj' W D (.deferred none);have hbw:=h6.bel;refine⟨by simp,.inl ⟨_,_,rfl,run_takeDeferred hK,?_⟩⟩;exact⟨_,results_none rfl _ _ _,.inl ⟨hcf,rfl⟩,hbw.grown hg1 hbw.size λr e=>by cases e;have:=hw5.size;omega⟩
end
section
open Go Go.RowKit
attribute [local go_sem] Oper.semAt_some
theorem d6y (q:Addr)(x e:Int)(w:World)(hc:w.cell? q=some (.int .i64 x))(hz:w.frozen? q=false) :
 CallsD prog 47 #[.pointer (some q)] (.panicking [{ v:= .iface 101 (.int .i64 e),recovered:=false }]) w λr u' w' =>
  r= .returned (.tuple #[])/\u'= .panicking [{ v:= .iface 101 (.int .i64 e),recovered:=true }]/\w'=w.setCell q (.int .i64 e):=by
 refine callsD_of_wpS func47 rfl λc₀ cs hu=> ?_
 apply wpS_seq;apply wpS_region;simp[wpOpsS,go_sem,recoverD,hu,ntmps47,Exit.thenS];apply wpS_seq;apply wpS_region;simp[wpOpsS,go_sem,Exit.thenS];refine wpS_cond (t:=true) (by simp[Act.eval]) ?_;simp only[if_true];refine wpS_of_wp ?_;simp[Array.replicate_succ,Array.replicate_zero];have hta:∀w,(Instr.typeAssert (.iface 101 (.int .i64 e)) 20 101 true).run prog w= .ok (.tuple #[.int .i64 e,.bool true]) w:=λw=>by kernel_rfl
 go_wp2_with fail;simp[bodyPostS,results,results47]
theorem d0h (q:Addr)(w:World) :
 CallsD prog 47 #[.pointer (some q)] .returning w λr u' w'=>r= .returned (.tuple #[])/\u'= .returning/\w'=w:=by
 refine callsD_of_wpS func47 rfl λc₀ cs hu=> ?_
 apply wpS_seq;apply wpS_region;simp[wpOpsS,go_sem,recoverD,hu,ntmps47,Exit.thenS];apply wpS_seq;apply wpS_region;simp[wpOpsS,go_sem,Exit.thenS];refine wpS_cond (t:=false) (by simp[Act.eval]) ?_;simp only[Bool.false_eq_true,if_false];refine wpS_of_wp (wp_skip ?_)
 cases c₀;simp_all [bodyPostS,results,results47]
end
section
open Go Go.RowKit Go.Shelf Go.Lib
attribute [local go_sem] Oper.semAt_some
attribute [local go_sem ↓] Go.wp_at_zero Go.wp_at_succ
variable{a cs ds tmps:Array Value}{g i:Nat}{P:Program}{t ty tz u:TypeId}{W w:World}
theorem Calls.first30 {f:FuncId}{A B:Prop}{e1 e2:Ending}{C:World->Prop}(hb:¬B)(h:Calls P f a w λe w'=>(A/\e=e1\/B/\e=e2)/\C w'):Calls P f a w λe w'=>e=e1/\C w' :=
 h.mono λ_ _ ⟨h1,h2⟩=>⟨h1.elim (λx=>x.2) λx=>absurd x.1 hb,h2⟩
theorem Calls.second30 {f:FuncId}{A B:Prop}{e1 e2:Ending}{C:World->Prop}(ha:¬A)(h:Calls P f a w λe w'=>(A/\e=e1\/B/\e=e2)/\C w'):Calls P f a w λe w'=>e=e2/\C w' :=
 h.mono λ_ _ ⟨h1,h2⟩=>⟨h1.elim (λx=>absurd x.1 ha) λx=>x.2,h2⟩
theorem a2r {W2:World}{n:Nat}{ev fv wv pv dv kv lv:Value}{s:Sh}(k1:Blk W n #[ev,fv,wv,pv] 37)(k2:Blk W (n+1) #[.int .i64 s.ax,.int .i64 s.ay,.int .i64 s.st,.int .i64 s.w,.int .i64 s.h,.int .i64 s.g] 28)(k3:Blk W (n+1+1) #[dv,kv,lv] 45)(k4:Blk W (n+1+1+1) #[.int .i64 0] 46)(hb:Below W.heap.size W W2):
 (W2.cell? ⟨n,0,none⟩=some ev/\W2.cell? ⟨n,1,none⟩=some fv/\W2.cell? ⟨n,2,none⟩=some wv/\W2.cell? ⟨n,3,none⟩=some pv)/\(W2.cell? ⟨n+1,0,none⟩=some (.int .i64 s.ax)/\W2.cell? ⟨n+1,1,none⟩=some (.int .i64 s.ay)/\W2.cell? ⟨n+1,2,none⟩=some (.int .i64 s.st)/\W2.cell? ⟨n+1,3,none⟩=some (.int .i64 s.w)/\W2.cell? ⟨n+1,4,none⟩=some (.int .i64 s.h)/\W2.cell? ⟨n+1,5,none⟩=some (.int .i64 s.g))/\(W2.cell? ⟨n+1+1,0,none⟩=some dv/\W2.cell? ⟨n+1+1,1,none⟩=some kv/\W2.cell? ⟨n+1+1,2,none⟩=some lv)/\W2.cell? ⟨n+1+1+1,0,none⟩=some (.int .i64 0)/\W2.frozen? ⟨n+1+1+1,0,none⟩=false:=by
 have h1:=k1.below hb k1.lt;have h2:=k2.below hb k2.lt;have h3:=k3.below hb k3.lt;have h4:=k4.below hb k4.lt;exact⟨⟨h1.cell 0,h1.cell 1,h1.cell 2,h1.cell 3⟩,⟨h2.cell 0,h2.cell 1,h2.cell 2,h2.cell 3,h2.cell 4,h2.cell 5⟩,⟨h3.cell 0,h3.cell 1,h3.cell 2⟩,h4.cell 0,h4.frozen 0⟩
theorem d8u (s:Sh)(f0:fits s.ax)(f1:fits s.ay)(hs:a1g s≠0)(ev fv wv dv kv lv:Value)(pa:Option Addr)(pn pc:Nat)(w:World):
 Calls prog 19 #[b7q ev fv wv (.slice pa pn pc),shV s,a3s dv kv lv] w λe w'=>e= .returned (.int .i64 (a1g s))/\Below w.heap.size w w':=by
 have hBg:=λw=>a8q s ev fv wv pa pn pc w f0 f1
 unfold a3c at hBg;rw[if_neg hs]at hBg;obtain⟨c,hc⟩:=zE (a1g s);rw[hc]at hBg hs ⊢;have hc0:(c != 0)=true:=by simpa using hs
 clear hc;have hmf:∀(fn:Fn) (first cap:Array Value) (w:World),(Instr.makeFunc fn first cap).run prog w= .ok (.func fn first cap) w:=λ_ _ _ _=>rfl
 go_enter_defers func19,ntmps19
 go_upto_region 1 with fail;have k1:=((Blk.new w #[ev,fv,wv,.slice pa pn pc] 37).alloc (.cells #[.int .i64 s.ax,.int .i64 s.ay,.int .i64 s.st,.int .i64 s.w,.int .i64 s.h,.int .i64 s.g] 28)).alloc (.cells #[dv,kv,lv] 45) |>.alloc (.cells #[.int .i64 0] 46)
 have k2:=(Blk.new (w.alloc (.cells #[ev,fv,wv,.slice pa pn pc] 37)) #[.int .i64 s.ax,.int .i64 s.ay,.int .i64 s.st,.int .i64 s.w,.int .i64 s.h,.int .i64 s.g] 28).alloc (.cells #[dv,kv,lv] 45) |>.alloc (.cells #[.int .i64 0] 46)
 have k3:=Blk.new ((w.alloc (.cells #[ev,fv,wv,.slice pa pn pc] 37)).alloc (.cells #[.int .i64 s.ax,.int .i64 s.ay,.int .i64 s.st,.int .i64 s.w,.int .i64 s.h,.int .i64 s.g] 28)) #[dv,kv,lv] 45 |>.alloc (.cells #[.int .i64 0] 46)
 have k4:=Blk.new (((w.alloc (.cells #[ev,fv,wv,.slice pa pn pc] 37)).alloc (.cells #[.int .i64 s.ax,.int .i64 s.ay,.int .i64 s.st,.int .i64 s.w,.int .i64 s.h,.int .i64 s.g] 28)).alloc (.cells #[dv,kv,lv] 45)) #[.int .i64 0] 46;have hw1:Below w.heap.size w ((((w.alloc (.cells #[ev,fv,wv,.slice pa pn pc] 37)).alloc (.cells #[.int .i64 s.ax,.int .i64 s.ay,.int .i64 s.st,.int .i64 s.w,.int .i64 s.h,.int .i64 s.g] 28)).alloc (.cells #[dv,kv,lv] 45)).alloc (.cells #[.int .i64 0] 46)):=((((zR _ _).alloc (yR _) _).alloc vM _).alloc uM _).alloc uM _;obtain⟨W1,hW1⟩:=zE ((((w.alloc (.cells #[ev,fv,wv,.slice pa pn pc] 37)).alloc (.cells #[.int .i64 s.ax,.int .i64 s.ay,.int .i64 s.st,.int .i64 s.w,.int .i64 s.h,.int .i64 s.g] 28)).alloc (.cells #[dv,kv,lv] 45)).alloc (.cells #[.int .i64 0] 46));have hz1:W1.heap.size=w.heap.size+1+1+1+1:=by rw[<-hW1];simp
 simp only[World.size_alloc]at k1 k2 k3 k4;rw[hW1]at k1 k2 k3 k4 hw1 ⊢;clear hW1;replace hz1:=Lib.hid hz1;obtain⟨⟨m0,m1,m2,m3⟩,⟨s0,s1,s2,s3,s4,s5⟩,⟨p0,p1,p2⟩,e0,e1⟩:=a2r k1 k2 k3 k4 (zR _ _);go_wp2_with (first
  |(go_at_call 33;(with_reducible refine(hBg _).mono ?_);rintro e W2⟨rfl,hb2⟩
    obtain⟨-,-,-,x0,x1⟩:=a2r k1 k2 k3 k4 hb2))
 have hbw:=hw1.trans (hb2.mono hw1.size);refine leaves_cons (f:=47) (args:= #[.pointer (some ⟨w.heap.size+1+1+1,0,none⟩)]) vM (by simp[go_sem]) ?_;refine(d0h _ _).mono ?_;rintro e u' w9⟨rfl,rfl,rfl⟩;obtain⟨W9,hW9⟩:=zE (W2.setCell ⟨w.heap.size+1+1+1,0,none⟩ (.int .i64 c));have hb9:Below w.heap.size w W9:=by rw[<-hW9];exact hbw.setCell (show w.heap.size<=w.heap.size+1+1+1 by omega) _
 have y0:W9.cell? ⟨w.heap.size+1+1+1,0,none⟩=some (.int .i64 c):=by rw[<-hW9];exact((k4.below hb2 k4.lt).set 0 _).cell 0
 rw[hW9];simp[Leaves,settle,results,results19,go_sem,y0];exact hb9
theorem a7w (s:Sh)(f0:fits s.ax)(f1:fits s.ay)(hs:a1g s=0)(ev fv wv pv v:Value)(l:List Pc)(ws:List Wy)(pl:Pn)(w:World)(hL:Lst plE w.heap.size w pv l)(hF:Frm pv l.length)(hl:l.length<=80)(hok:∀p∈l,PcOk p/\p.cls.size<=1000)
 (hW:Wys w.heap.size w wv ws) (hid:∀y∈ws,fits y.id) (hlen:ws.length<=100) (hpw:∀y∈ws,y.line.length<=100) (hPow:∀W,Below w.heap.size w W->Pow W)
 (hP:PlanIn w v pl) (hsm:∀d∈pl.dots,Sm d) (hpl:pl.dots.length<=10000) (hfi:∀x∈pl.left,fits x.i) (r:Int) (hr:b8f s.g (pfS s) a7e pl (wdF s ws) (a0t l)=r) :
 Calls prog 19 #[b7q ev fv wv pv,shV s,v] w λe w'=>e= .returned (.int .i64 r)/\Below w.heap.size w w':=by
 obtain⟨dv,kv,lv,rfl,⟨hd,hdf⟩,⟨hk,hkf⟩,hlf,hff⟩:=hP.ex;have hBg:=λpa pc X=>a8q s ev fv wv pa l.length pc X f0 f1
 unfold a3c at hBg;rw[if_pos hs,if_neg oM]at hBg;have hDt:=λX (hb:Below w.heap.size w X)=>d3t s f0 f1 hs ev fv wv pv dv kv lv l ws pl X (hL.up hb) hF oM hok (hW.up hb hb.size) hid hlen hpw (λY hY=>hPow Y (hb.trans (hY.mono hb.size))) (hd.up hb) (hlf.up hb) hff
 have hGp:=λX (hb:Below w.heap.size w X)=>d3m s dv kv lv pl.dots X (hd.up hb) oM
 rw[d6x hsm]at hGp;have hKy:=λX (hb:Below w.heap.size w X)=>d3n ev fv wv pv dv kv lv l pl X (hL.up hb) hF oM hok (hk.up hb) (hlf.up hb) hff
 have hRs:=λX (hb:Below w.heap.size w X)=>c3g s f0 f1 hs ev fv wv pv dv kv lv l pl X (hL.up hb) hF oM hok (λY hY=>hPow Y (hb.trans (hY.mono hb.size))) (hd.up hb) hdf hsm hpl (hlf.up hb) hff hfi
 unfold b8f at hr;obtain⟨pa,pc,rfl,-⟩:=hL.form;obtain⟨pn,hpn⟩:=zE l.length;rw[hpn]at hBg hDt hKy hRs ⊢;clear hL hF hok hW hid hlen hpw hPow hP hsm hpl hfi hd hdf hk hkf hlf hff hl hs f0 f1 hpn;have hmf:∀(fn:Fn) (first cap:Array Value) (w:World),(Instr.makeFunc fn first cap).run prog w= .ok (.func fn first cap) w:=λ_ _ _ _=>rfl
 go_enter_defers func19,ntmps19
 go_upto_region 1 with fail;have k1:=((Blk.new w #[ev,fv,wv,.slice pa pn pc] 37).alloc (.cells #[.int .i64 s.ax,.int .i64 s.ay,.int .i64 s.st,.int .i64 s.w,.int .i64 s.h,.int .i64 s.g] 28)).alloc (.cells #[dv,kv,lv] 45) |>.alloc (.cells #[.int .i64 0] 46)
 have k2:=(Blk.new (w.alloc (.cells #[ev,fv,wv,.slice pa pn pc] 37)) #[.int .i64 s.ax,.int .i64 s.ay,.int .i64 s.st,.int .i64 s.w,.int .i64 s.h,.int .i64 s.g] 28).alloc (.cells #[dv,kv,lv] 45) |>.alloc (.cells #[.int .i64 0] 46)
 have k3:=Blk.new ((w.alloc (.cells #[ev,fv,wv,.slice pa pn pc] 37)).alloc (.cells #[.int .i64 s.ax,.int .i64 s.ay,.int .i64 s.st,.int .i64 s.w,.int .i64 s.h,.int .i64 s.g] 28)) #[dv,kv,lv] 45 |>.alloc (.cells #[.int .i64 0] 46)
 have k4:=Blk.new (((w.alloc (.cells #[ev,fv,wv,.slice pa pn pc] 37)).alloc (.cells #[.int .i64 s.ax,.int .i64 s.ay,.int .i64 s.st,.int .i64 s.w,.int .i64 s.h,.int .i64 s.g] 28)).alloc (.cells #[dv,kv,lv] 45)) #[.int .i64 0] 46;have hw1:Below w.heap.size w ((((w.alloc (.cells #[ev,fv,wv,.slice pa pn pc] 37)).alloc (.cells #[.int .i64 s.ax,.int .i64 s.ay,.int .i64 s.st,.int .i64 s.w,.int .i64 s.h,.int .i64 s.g] 28)).alloc (.cells #[dv,kv,lv] 45)).alloc (.cells #[.int .i64 0] 46)):=((((zR _ _).alloc (yR _) _).alloc vM _).alloc uM _).alloc uM _;obtain⟨W1,hW1⟩:=zE ((((w.alloc (.cells #[ev,fv,wv,.slice pa pn pc] 37)).alloc (.cells #[.int .i64 s.ax,.int .i64 s.ay,.int .i64 s.st,.int .i64 s.w,.int .i64 s.h,.int .i64 s.g] 28)).alloc (.cells #[dv,kv,lv] 45)).alloc (.cells #[.int .i64 0] 46));have hz1:W1.heap.size=w.heap.size+1+1+1+1:=by rw[<-hW1];simp
 simp only[World.size_alloc]at k1 k2 k3 k4;rw[hW1]at k1 k2 k3 k4 hw1 ⊢;clear hW1;replace hz1:=Lib.hid hz1;obtain⟨⟨m0,m1,m2,m3⟩,⟨s0,s1,s2,s3,s4,s5⟩,⟨p0,p1,p2⟩,e0,e1⟩:=a2r k1 k2 k3 k4 (zR _ _);go_upto_region 5 with(first
  |(go_at_call 33;(with_reducible refine(hBg _ _ _).mono ?_);rintro e W2⟨rfl,hb2⟩
    have hbx0:=hb2;obtain⟨⟨m0,m1,m2,m3⟩,⟨s0,s1,s2,s3,s4,s5⟩,⟨p0,p1,p2⟩,x0,x1⟩:=a2r k1 k2 k3 k4 hbx0;have hbw0:=hw1.trans (hbx0.mono hw1.size)))
 cases h1:cdF (pfS s) pl (wdF s ws) (a0t l)
 ·have hDt':=λX hb=>Calls.second30 (by rw[h1];decide) (hDt X hb)
  rw[h1,if_neg jM]at hr;subst hr;clear hDt hGp hKy hRs h1;go_wp2_with (first
   |(go_at_call 48;(with_reducible refine(hDt' _ hbw0).mono ?_);rintro e V0⟨rfl,hc0⟩
     have hbx1:=hbx0.trans (hc0.mono hbx0.size);obtain⟨⟨m0,m1,m2,m3⟩,⟨s0,s1,s2,s3,s4,s5⟩,⟨p0,p1,p2⟩,x0,x1⟩:=a2r k1 k2 k3 k4 hbx1;have hbw1:=hw1.trans (hbx1.mono hw1.size)))
  have hbx:=hbx1;exact yij
 ·have hDt':=λX hb=>Calls.first30 (by rw[h1];decide) (hDt X hb)
  rw[h1,if_pos rfl]at hr;clear hDt h1;go_upto_region 6 with(first
   |(go_at_call 48;(with_reducible refine(hDt' _ hbw0).mono ?_);rintro e V0⟨rfl,hc0⟩
     have hbx1:=hbx0.trans (hc0.mono hbx0.size);obtain⟨⟨m0,m1,m2,m3⟩,⟨s0,s1,s2,s3,s4,s5⟩,⟨p0,p1,p2⟩,x0,x1⟩:=a2r k1 k2 k3 k4 hbx1;have hbw1:=hw1.trans (hbx1.mono hw1.size)))
  cases h2:d2e s.g pl.dots
  ·have hGp':=λX hb=>Calls.second30 (by rw[h2];decide) (hGp X hb)
   rw[h2,if_neg jM]at hr;subst hr;clear hGp hKy hRs h2;go_wp2_with (first
    |(go_at_call 49;(with_reducible refine(hGp' _ hbw1).mono ?_);rintro e V1⟨rfl,hc1⟩
      have hbx2:=hbx1.trans (hc1.mono hbx1.size);obtain⟨⟨m0,m1,m2,m3⟩,⟨s0,s1,s2,s3,s4,s5⟩,⟨p0,p1,p2⟩,x0,x1⟩:=a2r k1 k2 k3 k4 hbx2;have hbw2:=hw1.trans (hbx2.mono hw1.size)))
   have hbx:=hbx2;obtain⟨cc,hcc⟩:∃c:Int,c=41:=⟨_,rfl⟩;exact yan
  ·have hGp':=λX hb=>Calls.first30 (by rw[h2];decide) (hGp X hb)
   rw[h2,if_pos rfl]at hr;clear hGp h2;go_upto_region 7 with(first
    |(go_at_call 49;(with_reducible refine(hGp' _ hbw1).mono ?_);rintro e V1⟨rfl,hc1⟩
      have hbx2:=hbx1.trans (hc1.mono hbx1.size);obtain⟨⟨m0,m1,m2,m3⟩,⟨s0,s1,s2,s3,s4,s5⟩,⟨p0,p1,p2⟩,x0,x1⟩:=a2r k1 k2 k3 k4 hbx2;have hbw2:=hw1.trans (hbx2.mono hw1.size)))
   by_cases h3:a6g a7e pl (a0t l)=pl.keys
   rotate_left 1
   ·have hKy':=λX hb=>Calls.second30 h3 (hKy X hb)
    rw[if_neg h3]at hr;subst hr;clear hKy hRs h3;go_wp2_with (first
     |(go_at_call 50;(with_reducible refine(hKy' _ hbw2).mono ?_);rintro e V2⟨rfl,hc2⟩
       have hbx3:=hbx2.trans (hc2.mono hbx2.size);obtain⟨⟨m0,m1,m2,m3⟩,⟨s0,s1,s2,s3,s4,s5⟩,⟨p0,p1,p2⟩,x0,x1⟩:=a2r k1 k2 k3 k4 hbx3;have hbw3:=hw1.trans (hbx3.mono hw1.size)))
    have hbx:=hbx3;exact yij
   ·have hKy':=λX hb=>Calls.first30 (λh=>h h3) (hKy X hb)
    rw[if_pos h3]at hr;clear hKy h3;go_upto_region 8 with(first
     |(go_at_call 50;(with_reducible refine(hKy' _ hbw2).mono ?_);rintro e V2⟨rfl,hc2⟩
       have hbx3:=hbx2.trans (hc2.mono hbx2.size);obtain⟨⟨m0,m1,m2,m3⟩,⟨s0,s1,s2,s3,s4,s5⟩,⟨p0,p1,p2⟩,x0,x1⟩:=a2r k1 k2 k3 k4 hbx3;have hbw3:=hw1.trans (hbx3.mono hw1.size)))
    cases h4:a3n s.g (pfS s) pl (a0t l)
    ·have hRs':=λX hb=>Calls.second30 (by rw[h4];decide) (hRs X hb)
     rw[h4,if_neg jM]at hr;subst hr;clear hRs h4;go_wp2_with (first
      |(go_at_call 51;(with_reducible refine(hRs' _ hbw3).mono ?_);rintro e V3⟨rfl,hc3⟩
        have hbx4:=hbx3.trans (hc3.mono hbx3.size);obtain⟨⟨m0,m1,m2,m3⟩,⟨s0,s1,s2,s3,s4,s5⟩,⟨p0,p1,p2⟩,x0,x1⟩:=a2r k1 k2 k3 k4 hbx4;have hbw4:=hw1.trans (hbx4.mono hw1.size)))
     have hbx:=hbx4;exact yij
    ·have hRs':=λX hb=>Calls.first30 (by rw[h4];decide) (hRs X hb)
     rw[h4,if_pos rfl]at hr;clear hRs h4;go_upto_region 9 with(first
      |(go_at_call 51;(with_reducible refine(hRs' _ hbw3).mono ?_);rintro e V3⟨rfl,hc3⟩
        have hbx4:=hbx3.trans (hc3.mono hbx3.size);obtain⟨⟨m0,m1,m2,m3⟩,⟨s0,s1,s2,s3,s4,s5⟩,⟨p0,p1,p2⟩,x0,x1⟩:=a2r k1 k2 k3 k4 hbx4;have hbw4:=hw1.trans (hbx4.mono hw1.size)))
     subst hr;go_wp2_with fail;have hbx:=hbx4;refine leaves_cons (f:=47) (args:= #[.pointer (some ⟨w.heap.size+1+1+1,0,none⟩)]) vM (by simp[go_sem]) ?_;refine(d0h _ _).mono ?_;rintro e u' w9⟨rfl,rfl,rfl⟩;have y0:=(k4.below hbx k4.lt).set 0 (.int .i64 0);have hb9:=(hw1.trans (hbx.mono hw1.size)).setCell (p:=⟨w.heap.size+1+1+1,0,none⟩) (show w.heap.size<=w.heap.size+1+1+1 by omega) (.int .i64 0);exact ygm
theorem b6x {fn:Func}{p q:Tmp}(h:fn.results= #[.cell p ty,.cell q tz]){d e:TypeDesc}
 (hp:tmps.getD p undef= .pointer (some ⟨g,0,none⟩)) (hg:Blk w g cs t) (hu:P.underlying ty=some d) (hd:(match d with | .struct _ | .array _ _=>true|_=>false)=true) (hi:(P.info? ty).map (·.size)=some cs.size)
 (hp2:tmps.getD q undef= .pointer (some ⟨i,0,none⟩)) (hg2:Blk w i ds u) (hu2:P.underlying tz=some e) (hd2:(match e with | .struct _ | .array _ _=>true|_=>false)=true) (hi2:(P.info? tz).map (·.size)=some ds.size) :
 (results fn tmps).run P w= .ok (.tuple #[.agg cs,.agg ds]) w:=by
 have hp':tmps[p]?.getD undef= .pointer (some ⟨g,0,none⟩):=by simpa using hp
 have hp2':tmps[q]?.getD undef= .pointer (some ⟨i,0,none⟩):=by simpa using hp2
 simp[results,h,hp',hp2',asAddr,run_loadVar_row w g t ty cs (0,0) d hg hu hd hi,run_loadVar_row w i u tz ds (0,0) e hg2 hu2 hd2 hi2,Result.andThen]
theorem b6y {fn:Func}{p q r:Tmp}{ta:TypeId}(h:fn.results= #[.cell p ty,.cell q tz,.cell r ta]){j:Nat}{v:TypeId}{es:Array Value}{d e f:TypeDesc}
 (hp:tmps.getD p undef= .pointer (some ⟨g,0,none⟩)) (hg:Blk w g cs t) (hu:P.underlying ty=some d) (hd:(match d with | .struct _ | .array _ _=>true|_=>false)=true) (hi:(P.info? ty).map (·.size)=some cs.size)
 (hp2:tmps.getD q undef= .pointer (some ⟨i,0,none⟩)) (hg2:Blk w i ds u) (hu2:P.underlying tz=some e) (hd2:(match e with | .struct _ | .array _ _=>true|_=>false)=true) (hi2:(P.info? tz).map (·.size)=some ds.size)
 (hp3:tmps.getD r undef= .pointer (some ⟨j,0,none⟩)) (hg3:Blk w j es v) (hu3:P.underlying ta=some f) (hd3:(match f with | .struct _ | .array _ _=>true|_=>false)=true) (hi3:(P.info? ta).map (·.size)=some es.size) :
 (results fn tmps).run P w= .ok (.tuple #[.agg cs,.agg ds,.agg es]) w:=by
 have hp':tmps[p]?.getD undef= .pointer (some ⟨g,0,none⟩):=by simpa using hp
 have hp2':tmps[q]?.getD undef= .pointer (some ⟨i,0,none⟩):=by simpa using hp2
 have hp3':tmps[r]?.getD undef= .pointer (some ⟨j,0,none⟩):=by simpa using hp3
 simp[results,h,hp',hp2',hp3',asAddr,run_loadVar_row w g t ty cs (0,0) d hg hu hd hi,run_loadVar_row w i u tz ds (0,0) e hg2 hu2 hd2 hi2,run_loadVar_row w j v ta es (0,0) f hg3 hu3 hd3 hi3,Result.andThen]
theorem Blk.at30 {b b':Nat}{c:Array Value}(h:Blk W b c t)(e:b=b'):Blk W b' c t:=e▸h
abbrev a8x :ByteArray:=⟨#[116,114,101,101]⟩
theorem d6z (id wt x y:Int)(nm:ByteArray)(w:World):
 Calls prog 70 #[.int .i64 id,.string nm,.int .i64 wt,.int .i64 x,.int .i64 y] w λe w'=>e= .returned (.agg #[.int .i64 id,.int .i64 x,.int .i64 y,.string a8x,.string nm,.int .i64 wt,.int .i64 1])/\Below w.heap.size w w':=by
 go_enter func70,ntmps70;go_wp2_with fail;exact bodyPost_ret (results_cell_row qM _ _ _ 66 _ (0,0) _ qM (Blk.new w _ _) underlying66 qM zM) rfl ⟨rfl,zC⟩
def exL :List Pc:=[⟨1,105,105,a8x,⟨#[69,108,109]⟩,5,1⟩,⟨2,135,105,a8x,⟨#[]⟩,3,1⟩,⟨3,105,55,a8x,⟨#[79,97,107]⟩,9,1⟩,⟨4,5,5,a8x,⟨#[]⟩,1,1⟩]
def exS30 :Sh:=⟨0,0,10,40,30,2⟩
theorem d0i (w:World):
 Calls prog 29 #[] w λe w'=>∃B,e= .returned (.tuple #[.agg #[.slice none 0 0,.slice none 0 0,.slice none 0 0,.slice (some ⟨B,0,none⟩) 4 4],shV exS30])/\w.heap.size<=B/\Blk w' B (exL.flatMap plE.enc).toArray 66/\Below w.heap.size w w':=by
 go_enter func29,ntmps29;go_wp2_with (first
  |(go_at_call 70;(with_reducible refine(d6z _ _ _ _ _ _).mono ?_);rintro e w1⟨rfl,hb1⟩;obtain⟨p1,rfl⟩:=a0b hb1;clear hb1))
 refine bodyPost_ret (b6x qM qM ((((Blk.new w _ 37).alloc _).grow _).alloc _ |>.alloc _) underlying37 qM zM vM ((((Blk.new (w.alloc _) _ 28).grow _).alloc _).alloc _) underlying28 qM zM) rfl ⟨_,rfl,?_,?_,zC⟩
 ·omega
 ·exact Blk.at30 ((Blk.new _ _ _).alloc _) vM
def a6s (a b c d:Int)(raw:Sh):Sh:=if a % 16=15 then raw else⟨b % 100,c % 60,4+a % 9,20+d % 41,20+c % 21,1+b % 4⟩
theorem d7a (a b c d:Int)(ha:0<=a/\a<=255)(hb:0<=b/\b<=255)(hc:0<=c/\c<=255)(hd:0<=d/\d<=255)(raw:Sh)(w:World):
 Calls prog 32 #[.agg #[.int .u8 a,.int .u8 b,.int .u8 c,.int .u8 d],shV raw] w λe w'=>e= .returned (shV (a6s a b c d raw))/\Below w.heap.size w w':=by
 unfold a6s;by_cases h15:a % 16=15
 ·rw[if_pos h15]
  have hbq:(a % 16==15)=true:=by simpa using h15
  exact ygl
 ·rw[if_neg h15]
  have hbq:(a % 16==15)=false:=by simpa using h15
  exact ygl
end
section
open Go Go.RowKit
def exO :List Pc:=[⟨3,105,55,a8x,⟨#[79,97,107]⟩,9,1⟩,⟨1,105,105,a8x,⟨#[69,108,109]⟩,5,1⟩,⟨2,135,105,a8x,⟨#[]⟩,3,1⟩,⟨4,5,5,a8x,⟨#[]⟩,1,1⟩]
theorem b3e :a0t exL=exO:=by kernel_rfl
def exPl :Pn:=a2k exS30 [] exO
theorem b6z :exPl.left=[⟨2,3,1⟩,⟨4,0,0⟩]:=by decide +kernel
theorem d0j :exPl.keys=[⟨3,3,⟨#[32,21,1,5]⟩⟩,⟨1,1,⟨#[32,17,7,13]⟩⟩]:=by decide +kernel
theorem a9u :exPl.dots.length=17:=by decide +kernel
theorem d3y :exPl.dots.find? (atD 10 10)=some ⟨10,10,3,1⟩:=by decide +kernel
theorem d3z :exPl.dots.find? (atD 9 9)=none:=by decide +kernel
def b9t :Pn:=⟨exPl.dots.take 16,exPl.keys,exPl.left⟩
def b7a :Pn:=⟨exPl.dots,exPl.keys,[⟨2,3,3⟩,⟨4,0,0⟩]⟩
theorem d4a :d3o exPl exPl=true:=by decide +kernel
theorem d4b :d3o exPl b9t=false:=by decide +kernel
theorem d7b :b8f exS30.g (pfS exS30) a7e exPl (wdF exS30 []) exO=0:=by decide +kernel
theorem d7c :b8f exS30.g (pfS exS30) a7e b9t (wdF exS30 []) exO=42:=by decide +kernel
theorem d7d :b8f exS30.g (pfS exS30) a7e b7a (wdF exS30 []) exO=42:=by decide +kernel
theorem d4c :exO.map Pc.id=[3,1,2,4]:=rfl
end
section
open Go Go.RowKit Go.Shelf Go.Lib
attribute [local go_sem] Oper.semAt_some
attribute [local go_sem ↓] Go.wp_at_zero Go.wp_at_succ
theorem b9u (va vb:Value)(a:List Int)(w:World)(ha:Lst inE w.heap.size w va a)(hb:Lst inE w.heap.size w vb a)(hl:a.length<=100000) :
 Calls prog 13 #[va,vb] w λe w'=>e= .returned (.bool true)/\Below w.heap.size w w':=by
 obtain⟨aa,ac,rfl,-⟩:=ha.form;obtain⟨ba,bc,rfl,-⟩:=hb.form;go_enter func13,ntmps13;go_wp2_with fail;go_loopw [5] (λi wr=>∃k:Nat,k<=a.length/\i= .int .i64 k/\Below w.heap.size w wr) (λi _=>a.length-(intOf i).toNat)
 case atStart=>exact⟨0,Nat.zero_le _,rfl,zR _ _⟩
 case round =>
  obtain⟨k,hk,rfl,hB⟩:=hrel;have hsz:=hB.size;have ha':=ha.up hB;have hb':=hb.up hB;by_cases hlt:k<a.length
  ·have hltI:(k:Int)<(a.length:Int):=oM
   obtain⟨b1,o1,cap1,hv1,-,-,hc1⟩:=ha'.some_ oM;simp only[Value.slice.injEq,true_and]at hv1;obtain⟨rfl,rfl⟩:=hv1;obtain⟨b2,o2,cap2,hv2,-,-,hc2⟩:=hb'.some_ oM;simp only[Value.slice.injEq,true_and]at hv2;obtain⟨rfl,rfl⟩:=hv2;obtain⟨d,hd⟩:=zE (a[k]);have h1:=hc1 k hlt 0 (show 0<1 by decide);have h2:=hc2 k hlt 0 (show 0<1 by decide);rw[hd]at h1 h2;have c1:wr.cell? ⟨b1,o1+k,none⟩=some (.int .i64 d):=by simpa[inE]using h1
   have c2:wr.cell? ⟨b2,o2+k,none⟩=some (.int .i64 d):=by simpa[inE]using h2
   clear h1 h2 hc1 hc2 hd;go_wp2_with fail;first|with_reducible refine a0e zM zM ?_|with_reducible refine a0g zM zM ?_
   repeat(first|go_big_quiet_step (fail)|quiet_step (fail))
   refine wpQuiet_nil ?_;intro _ hw_;obtain⟨p,hw_⟩:=hw_;subst hw_;go_wp2_with fail;go_roundw
   case rel=>exact⟨k+1,oM,by go_num,zC⟩
   case measure=>first|(simp[intOf];done)|(simp[intOf];omega)
  ·obtain rfl:k=a.length:=oM
   have hge:¬(a.length:Int)<(a.length:Int):=oM;exact yjl
end
end Go.Proofs.YtfocdbjceedagaaGreatDoor
