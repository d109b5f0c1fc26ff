/-
  Parts.
-/
import Derived.Test.YtfocdbjceedagaaGreatDoorYag
import Derived.OrdersIn
import Derived.Deep.Slices
import Derived.Lib.Mul64
import Derived.Laws.Bits64b
import Derived.IntWalk
set_option linter.unusedVariables false
set_option linter.unusedSimpArgs false
set_option maxHeartbeats 4000000
set_option maxRecDepth 100000
namespace Go.Proofs.YtfocdbjceedagaaGreatDoor
open Tryz
section
open Go.RowKit Go.Shelf
attribute [local go_sem] Oper.semAt_some
def d2a (s:ByteArray):Prop:=∀i (h:i<s.size),48≤(s[i]).toNat∧(s[i]).toNat≤57
def a9w (b:Nat)(s:ByteArray)(w:World):Nat:=match w.heap[b]? with|some (.stringIter _ p)=>s.size-p|_=>0
theorem a5a (w:World)(s:ByteArray)(n:Nat):a9w w.heap.size s (w.iter s n)=s.size-n:=by
 unfold a9w;rw[World.iter_heap]
theorem c1v (s:ByteArray)(hd:d2a s)(hl:s.size≤1000000)(w:World):Calls prog 113 #[.string s] w fun e w'=>e= .returned (.bool true)∧Below w.heap.size w w':=by
 go_enter func113,ntmps113;go_wp2_with fail;go_loopw [7] (fun _ W=>∃n:Nat,n≤s.size∧W=w.iter s n) (fun _ W=>a9w w.heap.size s W)
 case atStart=>exact⟨0,Nat.zero_le _,rfl⟩
 case round =>
  obtain⟨n,hn,rfl⟩:=hrel;by_cases hlt:n<s.size
  ·obtain⟨h0,h1⟩:=hd n hlt
   have hr:∀ty,(Instr.next (.pointer (some ⟨w.heap.size,0,none⟩)) true ty).run prog (w.iter s n)= .ok (.tuple #[.bool true,.int .i64 n,.int .i32 (s[n]'hlt).toNat]) (w.iter s (n+1)):=fun ty=>run_next_ascii w s n ty hlt (by omega)
   obtain⟨c,hc⟩:∃c,(s[n]'hlt).toNat=c:=⟨_,rfl⟩;rw[hc] at h0 h1 hr;clear hc hd;have k0:¬(c:Int)<32:=by omega
   have k1:¬(126:Int)<c:=by omega
   have k2:¬(c:Int)=34:=by omega
   go_wp2_with fail;go_roundw
   case rel=>exact⟨n+1,by omega,rfl⟩
   case measure=>rw[a5a,a5a];omega
  ·obtain rfl:n=s.size:=by omega
   have hr:∀ty,(Instr.next (.pointer (some ⟨w.heap.size,0,none⟩)) true ty).run prog (w.iter s s.size)= .ok (.tuple #[.bool false]) (w.iter s s.size):=fun ty=>run_next_end w s s.size ty (by omega)
   go_wp2_with fail;go_ret;exact⟨rfl,(zR _ _).alloc (yR _) _⟩
theorem c7r (l:List UInt8)(c:UInt8)(r:List UInt8)(h:l=c::r)(hc:c.toNat≤57):∀x∈wordsL,Lib.hasPrefix l x.data.toList=false:=by
 subst h;have h2:∀a:UInt8,97≤a.toNat→(a==c)=false:=fun a ha=>by
  rw[beq_eq_false_iff_ne];intro e;subst e;omega
 intro x hx;simp only[wordsL,List.mem_cons,List.not_mem_nil,or_false] at hx;rcases hx with rfl|rfl|rfl|rfl|rfl|rfl|rfl|rfl|rfl|rfl|rfl <;>
 ·unfold Lib.hasPrefix
  simp only[List.isPrefixOf_cons_cons];rw[h2 _ (by decide)];rfl
theorem b0v (x s:ByteArray)(k:Nat)(sb kb:Nat)(w:World)(hk0:k<s.size)(hl:s.size≤1000000)(hs:w.cell? ⟨sb,0,none⟩=some (.string s))(hk:w.cell? ⟨kb,0,none⟩=some (.int .i64 k)) :
 Calls prog 116 #[.string x,.pointer (some ⟨sb,0,none⟩),.pointer (some ⟨kb,0,none⟩)] w fun e w'=>e= .returned (.bool (Lib.hasPrefix ((s.data.toList.drop k).take (s.size-k)) x.data.toList))∧w'=w:=by
 go_enter func116,ntmps116;go_wp2_with (go_at_call 117;refine (Tryz.strings_HasPrefix _ _ _).mono ?_;rintro e w'⟨rfl,rfl⟩);go_ret;exact⟨rfl,rfl⟩
theorem c4p (s:ByteArray)(k:Nat)(h:k<s.size):∃r,(s.data.toList.drop k).take (s.size-k)=s[k]::r:=by
 have h2:k<s.data.toList.length:=by simpa using h
 rw[List.drop_eq_getElem_cons h2,show s.size-k=(s.size-k-1)+1 from by omega,List.take_succ_cons];exact⟨_,rfl⟩
theorem c1w (s:ByteArray)(k sb kb:Nat)(w:World)(hd:d2a s)(hk0:k<s.size)(hl:s.size≤1000000)(hs:w.cell? ⟨sb,0,none⟩=some (.string s))(hk:w.cell? ⟨kb,0,none⟩=some (.int .i64 k)) :
 Calls prog 114 #[.slice (some ⟨w.heap.size,0,none⟩) 11 11,.func (.func 116) #[] #[.pointer (some ⟨sb,0,none⟩),.pointer (some ⟨kb,0,none⟩)]] (w.alloc (.cells a3t 9)) fun e w'=>e= .returned (.int .i64 (-1))∧∃q,w'=(w.alloc (.cells a3t 9)).drewN q:=by
 have hc:∀j,j<wordsL.length→(w.alloc (.cells a3t 9)).cell? ⟨w.heap.size,0+j,none⟩=some (Value.string wordsL[j]!):=by
  intro j hj;refine (a4v (heap_alloc_last w _) (0+j)).trans ?_;match j,hj with
  |0,_=>rfl
  |1,_=>rfl
  |2,_=>rfl
  |3,_=>rfl
  |4,_=>rfl
  |5,_=>rfl
  |6,_=>rfl
  |7,_=>rfl
  |8,_=>rfl
  |9,_=>rfl
  |10,_=>rfl
  |j+11,h=>exact absurd h (by simp[wordsL])
 have hp:PredAt prog 116 #[.pointer (some ⟨sb,0,none⟩),.pointer (some ⟨kb,0,none⟩)] Value.string (fun x=>Lib.hasPrefix ((s.data.toList.drop k).take (s.size-k)) x.data.toList) (w.alloc (.cells a3t 9)):=by
  intro W x hb;have lt1:sb<w.heap.size:=World.block_lt_of_cell? _ _ hs;have lt2:kb<w.heap.size:=World.block_lt_of_cell? _ _ hk;refine (b0v x s k sb kb W hk0 hl ?_ ?_).mono ?_
  ·rw[hb.cell (p:=⟨sb,0,none⟩) (by rw[World.size_alloc];simp only;omega),World.cell?_alloc_lt w _ _ lt1];exact hs
  ·rw[hb.cell (p:=⟨kb,0,none⟩) (by rw[World.size_alloc];simp only;omega),World.cell?_alloc_lt w _ _ lt2];exact hk
  ·rintro e w'⟨rfl,rfl⟩
   exact⟨rfl,0,rfl⟩
 refine (Tryz.slices_IndexFunc_f114 Value.string (fun x=>Lib.hasPrefix ((s.data.toList.drop k).take (s.size-k)) x.data.toList) 116 _ (enters_of func116 (by kernel_rfl) rfl) w.heap.size 0 11 11 wordsL _ hp (by decide) (by decide) hc).mono ?_;rintro e w'⟨rfl,h⟩;refine⟨?_,h⟩;obtain⟨r,hr⟩:=c4p s k hk0;have h2:Lib.idxBy (fun _ y=>Lib.hasPrefix ((s.data.toList.drop k).take (s.size-k)) y.data.toList) (wordsL.take 11) default = -1:=c0k _ 0 (fun x hx=>c7r _ _ _ hr (hd k hk0).2 x (List.mem_of_mem_take hx));rw[h2]
theorem b5x (c:Int)(h0:48≤c)(h1:c≤57)(w:World):Calls prog 120 #[.string ⟨#[32,44,39,45,46]⟩,.int .u8 c] w fun e w'=>e= .returned (.int .i64 (-1))∧w'=w:=by
 refine (Tryz.strings_IndexByte _ _ _).mono ?_;rintro e w'⟨rfl,rfl⟩;have:∀n:Nat,n<10→Lib.indexByte (⟨#[32,44,39,45,46]⟩:ByteArray).data.toList ((48+(n:Int)).toNat.toUInt8) = -1:=by decide +kernel
 have h2:=this (c-48).toNat (by omega);rw[show 48+(((c-48).toNat:Nat):Int)=c from by omega] at h2;exact⟨by rw[h2],rfl⟩
def c3h (c:Nat):Nat:=match c with|48=>26|49=>1|50=>3|51=>9|52=>25|53=>17|54=>11|55=>27|56=>19|_=>10
def lettersB:ByteArray:=⟨#[1,3,9,25,17,11,27,19,10,26,5,7,13,29,21,15,31,23,14,30,37,39,58,45,61,53]⟩
def b3s (s:ByteArray):Nat→List UInt8
 |0=>[]
 |n+1=>(if n=0 then [60] else b3s s n)++[(c3h (s[n]!).toNat).toUInt8]
theorem b3t (s:ByteArray):∀n,(b3s s n).length≤n+1
 |0=>Nat.zero_le _
 |n+1=>by
  unfold b3s;have:=b3t s n;split <;> simp <;> omega
theorem a5b {x:Int}(h0 : -9223372036854775808≤x)(h1:x≤9223372036854775807):IntKind.i64.wrap x=x:=by
 simp[IntKind.wrap,IntKind.bits,IntKind.signed];omega
theorem c1x (c:Nat)(h0:48≤c)(h1:c≤57)(hh:(((c:Int)-48+9) % 10).toNat<lettersB.size):((lettersB[(((c:Int)-48+9) % 10).toNat]'hh).toNat:Int)=(c3h c:Nat):=by
 rcases (show c=48∨c=49∨c=50∨c=51∨c=52∨c=53∨c=54∨c=55∨c=56∨c=57 from by omega) with rfl|rfl|rfl|rfl|rfl|rfl|rfl|rfl|rfl|rfl <;> rfl
theorem d0k (c:Nat):c3h c<256:=by
 unfold c3h;split <;> omega
theorem BW.byteN {B sb b kb:Nat}{s:ByteArray}{k:Int}{l:List UInt8}{w0 w:World}(h:BW B sb b kb s k l w0 w)(c:Nat)(hc:c<256)(hl:l.length+1≤140737488355328) :
 Calls prog 118 #[.pointer (some ⟨b,0,none⟩),.int .u8 c] w fun e w'=>e= .returned .nilIface∧BW B sb b kb s k (l++[c.toUInt8]) w0 w' :=
 h.byte' c.toUInt8 c (by simp;omega) hl
def kOf (v:Value)(W:World):Nat:=match v with | .pointer (some a)=>(match W.cell? a with|some x=>(intOf x).toNat|none=>0)|_=>0
theorem BW.kOf {B sb b kb:Nat}{s:ByteArray}{k:Int}{l:List UInt8}{w0 w:World}(h:BW B sb b kb s k l w0 w):kOf (.pointer (some ⟨kb,0,none⟩)) w=k.toNat:=by
 unfold Go.Proofs.YtfocdbjceedagaaGreatDoor.kOf;simp only[h.ck,intOf]
theorem b2r (s:ByteArray)(hd:d2a s)(hl:s.size≤1000)(w:World):Calls prog 64 #[.string s] w fun e w'=>e= .returned (.tuple #[.string ⟨(b3s s s.size).toArray⟩,.int .i64 0])∧Below w.heap.size w w':=by
 go_enter func64,ntmps64;go_wp2_with (first
  |(go_at_call 113;refine (c1v s hd (by omega) _).mono ?_;rintro e w'⟨rfl,hb_⟩;obtain⟨p,rfl⟩:=a0c hb_;clear hb_)
  |fail)
 have hB:=BW.start w s p;obtain⟨W,hW⟩:∃W,((((w.alloc (.cells #[.string s] 9)).growBy p).alloc (.cells #[.pointer none,.slice none 0 0] 178)).alloc (.cells #[.int .i64 0] 3))=W:=⟨_,rfl⟩;obtain⟨b,hb⟩:∃b,w.heap.size+1+p.objs.size=b:=⟨_,rfl⟩;rw[hW] at hB ⊢;rw[hb] at hB ⊢;obtain⟨kb,hkb⟩:∃kb,b+1=kb:=⟨_,rfl⟩;obtain⟨sb,hsb⟩:∃sb,w.heap.size=sb:=⟨_,rfl⟩;rw[hkb] at hB ⊢;rw[hsb] at hB ⊢;replace hsb:=Lib.hid hsb;clear hkb hb hW;go_loopw [5] (fun v wr=>∃(n kb:Nat),v= .pointer (some ⟨kb,0,none⟩)∧n≤s.size∧BW sb sb b kb s n (b3s s n) w wr) (fun v wr=>s.size-kOf v wr)
 case atStart=>exact⟨0,kb,rfl,Nat.zero_le _,hB⟩
 case round =>
  clear hB;obtain⟨n,kb,rfl,hn,hB⟩:=hrel;have hcs:=hB.cs;have hck:=hB.ck;have hfk:=hB.fk;have hkn:=Lib.hid (hB.kOf);have hol:=b3t s n;by_cases hlt:n<s.size
  ·have hltI:(n:Int)<(s.size:Int):=by omega
   obtain⟨d0,d1⟩:=hd n hlt;have hout:b3s s (n+1)=(if n=0 then [60] else b3s s n)++[(c3h (s[n]'hlt).toNat).toUInt8]:=by
    show (if n=0 then [60] else b3s s n)++[(c3h (s[n]!).toNat).toUInt8]=_;rw[getElem!_pos s n hlt]
   have hix:=c1w s n sb kb;obtain⟨c,hc⟩:∃c,(s[n]'hlt).toNat=c:=⟨_,rfl⟩;rw[hc] at d0 d1 hout;have hlz:(lettersB.size:Int)=26:=rfl;have hla:=c1x c d0 d1;have hlb:=d0k c;by_cases hn0:n=0
   ·subst hn0
    simp only[if_true] at hout;replace hout:=Lib.hid hout;have h60:∀q,Calls prog 118 #[.pointer (some ⟨b,0,none⟩),.int .u8 60] ((wr.alloc (.cells a3t 9)).drewN q) fun e w'=>e= .returned .nilIface∧BW sb sb b kb s 0 ([]++[60]) w w':=fun q=>((hB.alloc _).drewN q).byte' 60 60 rfl (by omega)
    clear hB;go_wp2_with (first
     |(refine a0n (by rfl) 9 _ _ (by rfl) s .i64 0 (by rfl) (by rfl) underlying9 c (by omega) (by omega) (by rw[←hc];rfl) ?_)
     |(refine a0n (by rfl) 9 _ _ (by rfl) lettersB .u8 (((c:Int)-48+9) % 10) (by rfl) (by rfl) underlying9 (c3h c:Nat) (by omega) (by omega) (hla _) ?_)
     |(go_at_call 115;refine (a5p _).mono ?_;rintro e w'⟨rfl,rfl⟩)
     |(go_at_call 114;refine (hix _ hd hlt (by omega) hcs hck).mono ?_;rintro e w'⟨rfl,q,rfl⟩)
     |(go_at_call 120;refine (b5x c (by omega) (by omega) _).mono ?_;rintro e w'⟨rfl,rfl⟩)
     |(go_at_call 119;refine (a4n c true (by simp;omega) _).mono ?_;rintro e w'⟨rfl,rfl⟩)
     |(go_at_call 118;with_reducible refine (h60 q).mono ?_;rintro e w1⟨rfl,hB1⟩;have cs1:=hB1.cs;have ck1:=hB1.ck;have fk1:=hB1.fk)
     |(go_at_call 118;with_reducible refine (hB1.byteN (c3h c) hlb (by simp)).mono ?_;rintro e w2⟨rfl,hB2⟩;have cs2:=hB2.cs;have ck2:=hB2.ck;have fk2:=hB2.fk)
     |fail)
    refine⟨⟨1,w2.heap.size,rfl,by omega,?_⟩,?_⟩
    ·rw[hout.out]
     exact hB2.newk 1
    ·rw[(hB2.newk 1).kOf,hkn.out]
     simp;omega
   ·have hn1:0<(n:Int):=by omega
    have hn2:¬(n:Int)≤0:=by omega
    obtain⟨e0,e1⟩:=hd (n-1) (by omega);have hw0:IntKind.i64.wrap ((n:Int)-1)=(n:Int)-1:=a5b (by omega) (by omega);have hw1:IntKind.i64.wrap ((n:Int)+1)=(n:Int)+1:=a5b (by omega) (by omega);rw[if_neg hn0] at hout;replace hout:=Lib.hid hout;have hlt1:∀q,Calls prog 118 #[.pointer (some ⟨b,0,none⟩),.int .u8 (c3h c:Nat)] ((wr.alloc (.cells a3t 9)).drewN q) fun e w'=>e= .returned .nilIface∧BW sb sb b kb s n (b3s s n++[(c3h c).toUInt8]) w w':=fun q=>((hB.alloc _).drewN q).byteN (c3h c) hlb (by omega)
    clear hB;go_wp2_with (first
     |(refine a0n (by rfl) 9 _ _ (by rfl) s .i64 (n:Nat) (by rfl) (by rfl) underlying9 c (by omega) (by omega) (by rw[←hc];rfl) ?_)
     |(refine a0n (by rfl) 9 _ _ (by rfl) lettersB .u8 (((c:Int)-48+9) % 10) (by rfl) (by rfl) underlying9 (c3h c:Nat) (by omega) (by omega) (hla _) ?_)
     |(go_at_call 115;refine (a5p _).mono ?_;rintro e w'⟨rfl,rfl⟩)
     |(go_at_call 114;refine (hix _ hd hlt (by omega) hcs hck).mono ?_;rintro e w'⟨rfl,q,rfl⟩)
     |(go_at_call 120;refine (b5x c (by omega) (by omega) _).mono ?_;rintro e w'⟨rfl,rfl⟩)
     |(go_at_call 119;with_reducible refine (a4n c true (by simp;omega) _).mono ?_;rintro e w'⟨rfl,rfl⟩)
     |(go_at_call 119;with_reducible refine (a4n _ true (by simp;omega) _).mono ?_;rintro e w'⟨rfl,rfl⟩)
     |(go_at_call 118;with_reducible refine (hlt1 q).mono ?_;rintro e w2⟨rfl,hB2⟩;have cs2:=hB2.cs;have ck2:=hB2.ck;have fk2:=hB2.fk)
     |fail)
    refine⟨⟨n+1,w2.heap.size,rfl,by omega,?_⟩,?_⟩
    ·rw[hout.out]
     exact hB2.newk _
    ·rw[(hB2.newk _).kOf,hkn.out]
     simp;omega
  ·obtain rfl:n=s.size:=by omega
   go_wp2_with (first
    |(go_at_call 121;refine (Tryz.Builder_String_any_k sb b (b3s s s.size) _ hB.bld hB.le).mono ?_;rintro e w3⟨rfl,hI3,hb3,ho3⟩)
    |fail)
   go_ret2;exact⟨rfl,by rw[hsb.out];exact hB.below.trans hb3⟩
end
section
open Go
structure Lf where
 p:Int
 k:Int
 i:Int
deriving DecidableEq
structure Ke where
 n:Int
 p:Int
 c:ByteArray
deriving DecidableEq
structure Pn where
 dots:List Dt
 keys:List Ke
 left:List Lf
def b8p (g:Int)(a b:Dt):Bool:=(decide (a.k≠b.k)||decide (a.i≠b.i))&&(decide (max (a.x-b.x) (b.x-a.x)<g)&&decide (max (a.y-b.y) (b.y-a.y)<g))
def a3e (g:Int)(l o:List Dt):Option Dt:=l.find? fun a=>o.any (b8p g a)
section
variable (g:Int)(pf:Pc→Bool×List Dt)(kf:Pc→List Ke)
def b3u (dots:List Dt)(p:Pc):Option Lf :=
 if (pf p).1 then (a3e g dots (pf p).2).map fun d=>⟨p.id,d.k,d.i⟩ else some ⟨p.id,0,0⟩
def a2z (pl:Pn)(p:Pc):Pn :=
 match b3u g pf pl.dots p with
 |some x=>{ pl with left:=pl.left++[x] }
 |none=>{ pl with dots:=pl.dots++(pf p).2,keys:=pl.keys++kf p }
def a1t (wd:List Dt)(ps:List Pc):Pn:=ps.foldl (a2z g pf kf) ⟨wd,[],[]⟩
def why (pl:Pn)(id:Int):Option Nat:=pl.left.findIdx? fun l=>decide (l.p=id)
structure CD where
 want:List Dt
 left:Nat
 last:List Int
def a7n (pl:Pn)(st:CD)(p:Pc):Option CD :=
 if p.id∈st.last then none
 else match why pl p.id with
  |some k=>if k=st.left then some ⟨st.want,st.left+1,p.id::st.last⟩ else none
  |none=>if (pf p).1 then some ⟨st.want++(pf p).2,st.left,p.id::st.last⟩ else none
def cdF (pl:Pn)(wd:List Dt)(ps:List Pc):Bool :=
 match ps.foldlM (a7n pf pl) ⟨wd,0,[]⟩ with
 |none=>false
 |some st=>decide (st.left=pl.left.length)&&decide (st.want=pl.dots)
def d0l (a b:Dt):Bool:=(decide (a.k≠3)&&decide (b.k≠3))|| !b8p g a b
def c7s (l:List Dt):Bool:=(List.range l.length).all fun k=>(l.take k).all fun b=>match l[k]? with|some a=>d0l g a b|none=>true
def a5q (pl:Pn)(ps:List Pc):List Ke:=ps.flatMap fun p=>if (why pl p.id).isNone then kf p else []
def b8q (pl:Pn)(bef:List Int)(p:Pc)(l:Lf):Bool :=
 if l.k=0∧l.i=0 then !(pf p).1
 else (pf p).1&&(decide (l.k=2)||(decide (l.k=3)&&decide (l.i≠p.id)&&decide (l.i∈p.id::bef)))&&(a3e g (pl.dots.filter fun d=>decide (d.k=l.k)&&decide (d.i=l.i)) (pf p).2).isSome
def a4g (pl:Pn)(bef:List Int)(p:Pc):Option (List Int) :=
 match (why pl p.id).bind fun k=>pl.left[k]? with
 |none=>some (p.id::bef)
 |some l=>if p.id∈bef then some (p.id::bef) else if b8q g pf pl bef p l then some (p.id::bef) else none
def a3m (pl:Pn)(ps:List Pc):Bool:=(ps.foldlM (a4g g pf pl) []).isSome
def b5y (pl:Pn)(wd:List Dt)(ps:List Pc):Int :=
 if cdF pf pl wd ps then if c7s g pl.dots then if a5q kf pl ps=pl.keys then if a3m g pf pl ps then 0 else 42 else 42 else 41 else 42
end
section
variable {g:Int}{pf:Pc→Bool×List Dt}{kf:Pc→List Ke}
theorem a3i (wd:List Dt)(qs:List Pc)(p:Pc):a1t g pf kf wd (qs++[p])=a2z g pf kf (a1t g pf kf wd qs) p:=by
 unfold a1t;rw[List.foldl_append];rfl
theorem a3q {pl:Pn}{p:Pc}{x:Lf}(h:b3u g pf pl.dots p=some x):a2z g pf kf pl p={ pl with left:=pl.left++[x] }:=by
 unfold a2z;rw[h]
theorem a2v {pl:Pn}{p:Pc}(h:b3u g pf pl.dots p=none):a2z g pf kf pl p={ pl with dots:=pl.dots++(pf p).2,keys:=pl.keys++kf p }:=by
 unfold a2z;rw[h]
theorem d2b {dots:List Dt}{p:Pc}{x:Lf}(h:b3u g pf dots p=some x):x.p=p.id:=by
 unfold b3u at h;split at h
 ·obtain⟨d,-,rfl⟩:=Option.map_eq_some_iff.1 h
  rfl
 ·cases h
  rfl
theorem a4h {α:Type}{Q:List α→Prop}(h0:Q [])(hs:∀l x,Q l→Q (l++[x]))(l:List α):Q l:=by
 have h:∀l:List α,Q l.reverse:=by
  intro l;induction l with
  |nil=>exact h0
  |cons x l ih=>rw[List.reverse_cons];exact hs _ x ih
 have:=h l.reverse;rwa [List.reverse_reverse] at this
theorem b3v (wd:List Dt)(qs:List Pc):∀rs:List Pc,∃D K L,a1t g pf kf wd (qs++rs)=⟨(a1t g pf kf wd qs).dots++D,(a1t g pf kf wd qs).keys++K,(a1t g pf kf wd qs).left++L⟩∧(∀x∈L,x.p∈rs.map Pc.id)∧(∀d∈D,∃p∈rs,d∈(pf p).2):=by
 refine a4h ⟨[],[],[],by simp,by simp,by simp⟩ fun rs p ih=> ?_
 ·obtain⟨D,K,L,h,hL,hD⟩:=ih
  rw[←List.append_assoc,a3i,h]
  cases ho:b3u g pf ((a1t g pf kf wd qs).dots++D) p with
  |some x =>
   rw[a3q ho];refine⟨D,K,L++[x],by simp,fun y hy=> ?_,fun d hd=> ?_⟩
   ·rcases List.mem_append.1 hy with hy|hy
    ·have:=hL y hy
     simp only[List.map_append,List.mem_append];exact .inl this
    ·rw[List.mem_singleton] at hy
     subst hy;rw[d2b ho];simp
   ·obtain⟨q,hq,h2⟩:=hD d hd
    exact⟨q,List.mem_append_left _ hq,h2⟩
  |none =>
   rw[a2v ho];refine⟨D++(pf p).2,K++kf p,L,by simp,fun y hy=> ?_,fun d hd=> ?_⟩
   ·have:=hL y hy
    simp only[List.map_append,List.mem_append];exact .inl this
   ·rcases List.mem_append.1 hd with hd|hd
    ·obtain⟨q,hq,h2⟩:=hD d hd
     exact⟨q,List.mem_append_left _ hq,h2⟩
    ·exact⟨p,by simp,hd⟩
theorem b5z (wd:List Dt)(qs:List Pc):∀d∈(a1t g pf kf wd qs).dots,d∈wd∨∃p∈qs,d∈(pf p).2:=by
 obtain⟨D,K,L,h,-,hD⟩:=b3v (g:=g) (pf:=pf) (kf:=kf) wd [] qs;rw[List.nil_append] at h;rw[h];intro d hd;rcases List.mem_append.1 hd with h1|h1
 ·exact .inl (by simpa [a1t] using h1)
 ·exact .inr (hD d h1)
end
end
section
open Go.RowKit Go.Shelf Go.Lib Go.Sort
attribute [local go_sem] Oper.semAt_some
attribute [local go_sem ↓] Go.wp_at_zero Go.wp_at_succ
theorem b6a {W:World}{b b':Nat}{e:TypeId}{s:Nat}{v:Value}{n:Nat}{xs:List Value}(h:W.ownsRow b e s v n xs)(hb:b'≤b):W.ownsRow b' e s v n xs:=by
 refine⟨h.1,h.2.imp id ?_⟩;rintro⟨g,cap,cur,h1,h2,h3⟩;exact⟨g,cap,cur,h1,by omega,h3⟩
theorem a1i {n:Nat}{w w':World}{o:Option Nat}(hg:w.grownBy w' o)(hn:n≤w.heap.size)(h:∀k,o=some k→n≤k):Below n w w' :=
 ⟨hg.os,hg.tape,hg.output,hg.size,fun k hk=>hg.block k (Nat.lt_of_lt_of_le hk hn) (fun e=>by have:=h k e.symm;omega)⟩
end
section
open Go Go.RowKit Go.Shelf
section
variable {α:Type}{E:El α}{P:Program}{st:TypeId}
theorem El.append_join (hE:E.Ok)(hI:E.In P st)(W:World)(base:Nat)(v xv:Value)(l l2:List α)(ty:TypeId)(hv:W.ownsRow base E.t E.s v l.length (l.flatMap E.enc))(hsm:∃g c,v= .slice (some ⟨g,0,none⟩) l.length c){n0:Nat}(hx:Lst E n0 W xv l2)(hf:Frm xv l2.length)(hl:l.length+l2.length≤100000)(hb:base≤W.heap.size) :
 ∃v' W',(Builtin.append_ #[st,st] ty #[v,xv]).run P W= .ok v' W'∧W'.ownsRow base E.t E.s v' (l++l2).length ((l++l2).flatMap E.enc)∧W.grownBy W' v.ownBlock∧Below base W W'∧∃g cap,v'= .slice (some ⟨g,0,none⟩) (l++l2).length cap:=by
 obtain⟨i0,z,hi0,hz0,hz1,hz2,hz3⟩:=hI.info;obtain⟨g,c,rfl⟩:=hsm;by_cases hne:l2=[]
 ·subst hne
  have hs:Src P i0.size st xv 0 [] W:=by
   rcases hf with rfl|⟨b,off,cap,rfl⟩
   ·exact Src.ofNil W hI.under 0
   ·exact Src.ofSlice W hI.under _ 0 cap [] (by simp) (by simp) (by simp)
  have hlc:l.length+0≤c:=by
   rcases hv.2 with ⟨e,-⟩|⟨g',cap',cur,e,-,-,h1,-⟩
   ·cases e
   ·simp only[Value.slice.injEq,true_and] at e
    omega
  have hr:=run_append_room_src (P:=P) W st st ty E.t i0 hI.under hi0 g 0 l.length c xv 0 [] hs hlc (by simp) (by simp);refine⟨_,_,hr,?_,?_,?_,g,c,?_⟩
  ·rw[List.append_nil];exact hv
  ·exact⟨rfl,rfl,rfl,yR _,fun _ _ _=>rfl⟩
  ·exact⟨rfl,rfl,rfl,yR _,fun _ _=>rfl⟩
  ·rw[List.append_nil];rfl
 ·have hpos:0<l2.length:=List.length_pos_iff.2 hne
  obtain⟨b,off,cap,rfl,hcap,hbn,-⟩:=hx.some_ hpos;have hnews:∀j u,(l2.flatMap E.enc)[j]? =some u→W.cell? ((⟨b,off,none⟩:Addr).add j)=some u:=fun j u hj=>by
   rw[Addr.add_lit];exact hx.flat hE j u hj
  obtain⟨v',W',hr,hown,hg,-,-⟩:=run_append_own_at (P:=P) W base st ty E.t i0 _ E.s i0.bytes hI.under hi0 hz0 hz1 rfl hz3 hE.pos _ l.length _ hv ⟨b,off,none⟩ l2.length cap (l2.flatMap E.enc) (a1c hE l2) hnews (a4w hE l2) (by unfold maxLen;omega) (Nat.le_trans (Nat.mul_le_mul (show l.length+l2.length≤100000 by omega) hz2) (by decide)) hb;have hform:∃g cap,v'= .slice (some ⟨g,0,none⟩) (l++l2).length cap:=by
   rw[List.length_append];rcases hown.2 with ⟨-,e⟩|⟨g',cap',cur,e,-⟩
   ·omega
   ·exact⟨g',cap',e⟩
  refine⟨v',W',hr,?_,hg,a1i hg hb (fun k e=>(hv.lt k e).1),hform⟩;rw[List.length_append,List.flatMap_append];exact hown
theorem El.step_join (hE:E.Ok)(hI:E.In P st){o:Oper}{a:Act}{w:World}{K:Act→World→Prop}{Q:Exit→Act→World→Prop}(s x:Operand)
 (ho:o.op= .call { callee:= .builtin .append,args:= #[s,x],argTypes:= #[st,st] })
 (base:Nat) {v:Value} (hs:a.eval s=v) (l:List α) (hv:w.ownsRow base E.t E.s v l.length (l.flatMap E.enc)) (hsm:∃g c,v= .slice (some ⟨g,0,none⟩) l.length c) {xv:Value} (l2:List α) (hxv:a.eval x=xv) {n0:Nat} (hx:Lst E n0 w xv l2) (hf:Frm xv l2.length) (hl:l.length+l2.length≤100000) (hb:base≤w.heap.size)
 (h:∀v' w',w'.ownsRow base E.t E.s v' (l++l2).length ((l++l2).flatMap E.enc)→w.grownBy w' v.ownBlock→Below base w w'→(∃g cap,v'= .slice (some ⟨g,0,none⟩) (l++l2).length cap)→K (a.put o.dst v') w') :
 Oper.wp P o a w K Q:=by
 obtain⟨v',w',hr,h2,h3,h4,h5⟩:=El.append_join hE hI w base v xv l l2 o.type hv hsm hx hf hl hb;unfold Oper.wp execOp;simp only[ho,resolve,invoke,builtin,Sem.run_bind,Sem.run_pure,Result.andThen_ok,List.map_toArray,List.map_cons,List.map_nil,hs,hxv,hr];exact h v' w' h2 h3 h4 h5
theorem El.join (hE:E.Ok)(hI:E.In P st){ops:Array Oper}{rest:List Oper}{o:Oper}{a:Act}{w:World}{Q:Exit→Act→World→Prop}(hgd:o.guard=none)(s x:Operand)
 (ho:o.op= .call { callee:= .builtin .append,args:= #[s,x],argTypes:= #[st,st] })
 (base:Nat) {v:Value} (hs:a.eval s=v) (l:List α) (hv:w.ownsRow base E.t E.s v l.length (l.flatMap E.enc)) (hsm:∃g c,v= .slice (some ⟨g,0,none⟩) l.length c) {xv:Value} (l2:List α) (hxv:a.eval x=xv) {n0:Nat} (hx:Lst E n0 w xv l2) (hf:Frm xv l2.length) (hl:l.length+l2.length≤100000) (hb:base≤w.heap.size)
 (h:∀v' w',w'.ownsRow base E.t E.s v' (l++l2).length ((l++l2).flatMap E.enc)→w.grownBy w' v.ownBlock→Below base w w'→(∃g cap,v'= .slice (some ⟨g,0,none⟩) (l++l2).length cap)→wpList P ops Q rest (a.put o.dst v') w') :
 wpList P ops Q (o::rest) a w :=
 wpList_plain hgd fun _ hK=>El.step_join hE hI s x ho base hs l hv hsm l2 hxv hx hf hl hb fun v' w' h1 h2 h3 h4=>hK _ _ (h v' w' h1 h2 h3 h4)
end
end
section
open Go.RowKit Go.Shelf Go.Maps
attribute [local go_sem] Oper.semAt_some
theorem Dts.up {n:Nat}{A B:World}{sv:Value}{l:List Dt}(h:Dts n A sv l)(hb:Below n A B)(hn:n≤B.heap.size):Dts B.heap.size B sv l:=(h.below hb).mono hn
end
section
open Go.RowKit Go.Shelf
attribute [local go_sem] Oper.semAt_some
abbrev d4o (l:List UInt8):List Value:=l.map fun b=> .int .u8 (b.toNat:Int)
structure OB (w:World)(B:Nat)(v:Value)(l:List UInt8)(W:World):Prop where
 row:W.ownsRow B 5 1 v l.length (d4o l)
 below:Below w.heap.size w W
 lb:B≤W.heap.size
 wb:w.heap.size≤B
section
variable {w W W':World}{B:Nat}{v:Value}{l:List UInt8}
theorem OB.grown (h:OB w B v l W)(hg:W.grownBy W' none):OB w B v l W' :=
 ⟨by
  refine h.row.kept hg ?_;rcases h.row.2 with ⟨rfl,_⟩|⟨g,cap,cur,rfl,_⟩
  ·exact .inl rfl
  ·exact .inr (fun e=>by cases e),h.below.grown hg h.below.size (fun k e=>by cases e),Nat.le_trans h.lb hg.size,h.wb⟩
theorem OB.alloc (h:OB w B v l W)(o:Obj):OB w B v l (W.alloc o):=h.grown (World.grownBy_alloc W o none)
theorem OB.up (h:OB w B v l W)(hb:Below W.heap.size W W'):OB w B v l W':=h.grown (a1o hb)
end
end
section
open Go.RowKit Go.Shelf
attribute [local go_sem] Oper.semAt_some
attribute [local go_sem ↓] Go.wp_at_zero Go.wp_at_succ
def d4p (n:Nat):UInt8:=(48+n % 10).toUInt8
def FDec (n m r:Nat)(txt:ByteArray)(i:Nat)(v:Value)(w:World):Prop :=
 match i with
 |0=>v= .int .i64 (n:Nat)
 |1=>v= .int .i64 (m:Nat)
 |2=>v= .string txt
 |3=>v= .int .i64 (n:Nat)
 |4=>v= .int .i64 (r:Nat)
 |5=>v= .int .i64 (48+(r:Nat))
 |6=>v= .int .u8 (48+(r:Nat))
 |7=>∃L,v= .slice (some ⟨L,0,none⟩) 1 1∧Blk w L #[.int .u8 (48+(r:Nat))] 5
 |8=>v= .string ⟨#[d4p n]⟩
 |_=>False
theorem FDec.kept {n m r:Nat}{txt:ByteArray}{i:Nat}{v:Value}{w w':World}(h:FDec n m r txt i v w)(hg:Below w.heap.size w w'):FDec n m r txt i v w':=by
 unfold FDec at *;split at h
 all_goals first|exact h|(obtain⟨L,h1,h2⟩:=h;exact⟨L,h1,h2.below hg h2.lt⟩)
theorem a3u:∀(k n:Nat),n<10 ^ (k+1)→(Lib.decDigits n).length≤k+1
 |0,n,h=>by
  rw[Lib.decDigits,dif_pos (by simpa using h)];simp
 |k+1,n,h=>by
  rw[Lib.decDigits];split
  ·simp
  ·have h2:=a3u k (n / 10) (by rw[Nat.pow_succ] at h;omega)
   rw[List.length_append];simp;omega
def a8h (n:Nat):ByteArray:=⟨(Lib.decDigits n).toArray⟩
theorem a5r (n:Nat):(a8h n).size=(Lib.decDigits n).length:=by
 show (Lib.decDigits n).toArray.size=_;simp
theorem b0w (n:Nat):d2a (a8h n):=by
 have h:∀k n,n<k→∀c∈Lib.decDigits n,48≤c.toNat∧c.toNat≤57:=by
  intro k;induction k with
  |zero=>intro n h;omega
  |succ k ih =>
   intro n h c hc;rw[Lib.decDigits] at hc;have hd:∀m,m<10→48≤(UInt8.ofNat (48+m)).toNat∧(UInt8.ofNat (48+m)).toNat≤57:=fun m hm=>by
    rw[UInt8.toNat_ofNat'];omega
   split at hc
   ·rename_i hn
    rw[List.mem_singleton.1 hc];exact hd n hn
   ·rcases List.mem_append.1 hc with hc|hc
    ·exact ih (n / 10) (by omega) c hc
    ·rw[List.mem_singleton.1 hc]
     exact hd _ (Nat.mod_lt _ (by omega))
 intro i hi;have hl:i<(Lib.decDigits n).length:=by rw[←a5r];exact hi
 exact h (n+1) n (by omega) _ (List.getElem_mem hl)
end
end Go.Proofs.YtfocdbjceedagaaGreatDoor
namespace Go
open Go.RowKit Go.Shelf
theorem World.setCell_id (w:World)(b o:Nat)(v:Value)(h:w.cell? ⟨b,o,none⟩=some v):w.setCell ⟨b,o,none⟩ v=w:=by
 obtain⟨heap,tape,drawn,os,output⟩:=w;unfold World.setCell;simp only[World.mk.injEq,and_true];apply Array.ext_getElem?;intro i;simp only[Array.getElem?_modify];by_cases hb:b=i
 ·subst hb
  unfold World.cell? at h;simp only[if_true]
  cases hx:heap[b]? with
  |none=>rfl
  |some x =>
   rw[show ({ heap:=heap,tape:=tape,drawn:=drawn,os:=os,output:=output }:World).heap[b]? =some x from hx] at h
   cases x <;> try rfl
   rename_i c t f;simp at h ⊢;have h':c[o]? =some v:=h;obtain⟨hl,hv⟩:=Array.getElem?_eq_some_iff.1 h';apply Array.ext_getElem?;intro j;rw[Array.getElem?_setIfInBounds];split
   ·rename_i e;subst e;exact h'.symm
   ·rfl
 ·simp[hb]
end Go
namespace Go.Proofs.YtfocdbjceedagaaGreatDoor
open Go.RowKit Go.Shelf
attribute [local go_sem] Oper.semAt_some
def Ints (n₀:Nat)(W:World)(sv:Value)(xs:List Int):Prop :=
 ∃a cap,sv= .slice a xs.length cap∧∀j,(h:j<xs.length)→∃b off,a=some ⟨b,off,none⟩∧b<n₀∧a0i xs[j]∧W.cell? ⟨b,off+j,none⟩=some (.int .i64 xs[j])
theorem Ints.below {n₀:Nat}{A B:World}(h:Below n₀ A B){sv:Value}{xs:List Int}:Ints n₀ A sv xs→Ints n₀ B sv xs
 |⟨a,cap,e,f⟩=>⟨a,cap,e,fun j hj=>by
  obtain⟨b,off,h1,h2,h3,h4⟩:=f j hj;exact⟨b,off,h1,h2,h3,(h.cell (p:=⟨b,off+j,none⟩) h2).trans h4⟩⟩
theorem Ints.up {n₀:Nat}{A B:World}{sv:Value}{xs:List Int}(h:Ints n₀ A sv xs)(hb:Below n₀ A B)(hn:n₀≤B.heap.size):Ints B.heap.size B sv xs:=by
 obtain⟨a,cap,e,f⟩:=h.below hb;exact⟨a,cap,e,fun j hj=>by
  obtain⟨b,off,h1,h2,h3⟩:=f j hj;exact⟨b,off,h1,by omega,h3⟩⟩
def a8i (xs:List Int)(j:Nat)(m:Int):Int:=xs.getD j 0 % m
theorem c0l (xs:List Int)(j:Nat){m:Int}(h:1≤m):0≤a8i xs j m∧a8i xs j m<m:=⟨Int.emod_nonneg _ (by omega),Int.emod_lt_of_pos _ (by omega)⟩
theorem c0m (n₀ D j:Nat)(xs:List Int)(sv:Value)(m v:Int)(w:World)(hv:a8i xs j m=v)(hm1:1≤m)(hm2:m≤4611686018427387904)(hD:n₀≤D)(hI:Ints n₀ w sv xs)(hB:Blk w D #[sv,.int .i64 (min j xs.length:Nat)] 137)(hk:j≤1000) :
 Calls Tryz.prog 73 #[.pointer (some ⟨D,0,none⟩),.int .i64 m] w fun e w'=>∃p,e= .returned (.int .i64 v)∧w'=(w.setCell ⟨D,1,none⟩ (.int .i64 (min (j+1) xs.length:Nat))).growBy p:=by
 subst hv;by_cases hlt:j<xs.length
 ·rw[show min j xs.length=j from by omega] at hB
  rw[show min (j+1) xs.length=j+1 from by omega];have c0:w.cell? ⟨D,0,none⟩=some sv:=hB.cell 0;have c1:w.cell? ⟨D,1,none⟩=some (.int .i64 (j:Nat)):=hB.cell 1;have f1:=hB.frozen 1;obtain⟨a,cap,rfl,hc⟩:=hI;obtain⟨b,off,rfl,hb,fx,cx⟩:=hc j hlt;have hx:a8i xs j m=xs[j] % m:=by unfold a8i;rw[List.getD_eq_getElem?_getD,List.getElem?_eq_getElem hlt];rfl
  rw[hx];obtain⟨x,hxx⟩:∃x,xs[j]=x:=⟨_,rfl⟩;rw[hxx] at fx cx ⊢;have hbD:¬b=D:=by omega
  have hDb:¬D=b:=by omega
  have hlt':(j:Int)<(xs.length:Int):=by omega
  clear hc hxx hx;go_enter Tryz.func73,Tryz.ntmps73;go_wp2_with fail;first|with_reducible refine a0v (by kernel_rfl) (by kernel_rfl) ?_|with_reducible refine a1a (by kernel_rfl) (by kernel_rfl) ?_
  repeat (first|go_big_quiet_step (fail)|quiet_step (fail))
  refine wpQuiet_nil ?_;intro _ hw_;obtain⟨p,hw_⟩:=hw_;subst hw_;go_wp2_with fail;first|with_reducible refine a0v (by kernel_rfl) (by kernel_rfl) ?_|with_reducible refine a1a (by kernel_rfl) (by kernel_rfl) ?_
  repeat (first|go_big_quiet_step ((go_at_call 77;exact Calls.grow_of_same (a0p _ _ _ fx hm1 hm2)))|quiet_step ((go_at_call 77;exact Calls.grow_of_same (a0p _ _ _ fx hm1 hm2))))
  refine wpQuiet_nil ?_;intro _ hw_;obtain⟨p,hw_⟩:=hw_;subst hw_;go_wp2_with fail;go_ret;exact⟨_,rfl,rfl⟩
 ·rw[show min j xs.length=xs.length from by omega] at hB
  rw[show min (j+1) xs.length=xs.length from by omega];have c0:w.cell? ⟨D,0,none⟩=some sv:=hB.cell 0;have c1:w.cell? ⟨D,1,none⟩=some (.int .i64 (xs.length:Nat)):=hB.cell 1;have f1:=hB.frozen 1;have hid:=World.setCell_id w D 1 _ c1;have hz:a8i xs j m=0:=by unfold a8i;rw[List.getD_eq_getElem?_getD,List.getElem?_eq_none (by omega)];simp
  rw[hz];have hge':¬(xs.length:Int)<(xs.length:Int):=by omega
  obtain⟨a,cap,rfl,-⟩:=hI;clear hz;go_enter Tryz.func73,Tryz.ntmps73;go_wp2_with fail;first|with_reducible refine a0v (by kernel_rfl) (by kernel_rfl) ?_|with_reducible refine a1a (by kernel_rfl) (by kernel_rfl) ?_
  repeat (first|go_big_quiet_step (fail)|quiet_step (fail))
  refine wpQuiet_nil ?_;intro _ hw_;obtain⟨p,hw_⟩:=hw_;subst hw_;go_wp2_with fail;go_ret;exact⟨_,rfl,by rw[hid]⟩
theorem Below.of_grown {n₀:Nat}{W W':World}{row:Option Nat}(hg:W.grownBy W' row)(hn:n₀≤W.heap.size)(hr:∀r,row=some r→n₀≤r):Below n₀ W W' :=
 ⟨hg.os,hg.tape,hg.output,hg.size,fun i hi=>hg.block i (by omega) (fun e=>by have:=hr i e.symm;omega)⟩
structure MW (n₀:Nat)(w W:World)(sv:Value)(xs:List Int)(j:Nat):Prop where
 bR:Blk W n₀ #[.int .i64 0,.int .i64 0,.int .i64 0,.int .i64 0,.int .i64 0,.int .i64 0] 28
 bD:Blk W (n₀+1) #[sv,.int .i64 (min j xs.length:Nat)] 137
 below:Below n₀ w W
 ints:Ints n₀ W sv xs
theorem MW.kept {n₀:Nat}{w W W':World}{sv:Value}{xs:List Int}{k:Nat}{row:Option Nat}(h:MW n₀ w W sv xs k)(hg:W.grownBy W' row)(hr:∀r,row=some r→n₀+1<r):MW n₀ w W' sv xs k:=by
 have hlt:=h.bR.lt;have hb:Below n₀ W W':=Below.of_grown hg (by omega) (fun r e=>by have:=hr r e;omega);exact⟨h.bR.kept hg (fun e=>by have:=hr _ e;omega),h.bD.kept hg (fun e=>by have:=hr _ e;omega),h.below.trans hb,h.ints.below hb⟩
theorem a3a (W:World)(b i:Nat)(v:Value)(p:Growth):W.grownBy ((W.setCell ⟨b,i,none⟩ v).growBy p) (some b):=by
 refine⟨rfl,rfl,rfl,by simp,fun k hk hne=> ?_⟩;rw[World.heap_growBy _ _ (by simpa using hk)];exact Below.heap_setCell _ _ _ _ (fun e=>hne (by rw[e]))
theorem MW.call {n₀:Nat}{w W:World}{sv:Value}{xs:List Int}{j:Nat}(h:MW n₀ w W sv xs j)(hk:j≤1000)(m v:Int)(hv:a8i xs j m=v)(hm1:1≤m)(hm2:m≤4611686018427387904) :
 Calls Tryz.prog 73 #[.pointer (some ⟨n₀+1,0,none⟩),.int .i64 m] W fun e W'=>e= .returned (.int .i64 v)∧MW n₀ w W' sv xs (j+1)∧W.grownBy W' (some (n₀+1)):=by
 refine (c0m n₀ (n₀+1) j xs sv m v W hv hm1 hm2 (by omega) h.ints h.bD hk).mono ?_;rintro e W'⟨p,rfl,rfl⟩;have hlt:=h.bR.lt;have hb:Below n₀ W ((W.setCell ⟨n₀+1,1,none⟩ (.int .i64 (min (j+1) xs.length:Nat))).growBy p):=Below.of_grown (a3a _ _ _ _ _) (by omega) (fun r e=>by cases e;omega);refine⟨rfl,⟨h.bR.kept (a3a _ _ _ _ _) (fun e=>by cases e),?_,h.below.trans hb,h.ints.below hb⟩,a3a _ _ _ _ _⟩;have:=(h.bD.set 1 (.int .i64 (min (j+1) xs.length:Nat))).grow p;simpa using this
structure MadeS (s:Sh):Prop where
 x0 : -40≤s.ax
 x1:s.ax≤30
 y0 : -40≤s.ay
 y1:s.ay≤30
 t0:6≤s.st
 t1:s.st≤17
 w0:20≤s.w
 w1:s.w≤40
 h0:15≤s.h
 h1:s.h≤30
 g0:1≤s.g
 g1:s.g≤3
theorem MadeS.check {s:Sh}(h:MadeS s):a1w s=0:=by
 obtain⟨ax,ay,st,W,H,G⟩:=s;obtain⟨x0,x1,y0,y1,t0,t1,w0,w1,h0,h1,g0,g1⟩:=h;simp only at x0 x1 y0 y1 t0 t1 w0 w1 h0 h1 g0 g1;have m1:=Int.mul_le_mul (a:=W) (b:=st) (c:=40) (d:=17) w1 t1 (by omega) (by omega);have m2:=Int.mul_le_mul (a:=H) (b:=st) (c:=30) (d:=17) h1 t1 (by omega) (by omega);have m3:=Int.mul_nonneg (a:=W) (b:=st) (by omega) (by omega);have m4:=Int.mul_nonneg (a:=H) (b:=st) (by omega) (by omega);rw[c4i ⟨⟨by simp only;omega,by simp only;omega⟩,⟨by simp only;omega,by simp only;omega⟩,⟨by simp only;omega,by simp only;omega⟩,by simp only;omega,by simp only;omega⟩];have e1:a2b ax ay=true:=a3h.2 (by omega);have e2:a2b (ax+W*st) (ay+H*st)=true:=a3h.2 (by omega);simp[e1,e2]
end Go.Proofs.YtfocdbjceedagaaGreatDoor
namespace Go.Proofs.YtfocdbjceedagaaGreatDoor
open Tryz
section
open Go.RowKit Go.Shelf
section
variable {H:Type}{enc:TypeId×Value→H}{P:Program}{W:World}{base:Nat}{sp:Nat→Bool}{hd:Bool}{t e:TypeId}{v:Value}
theorem c7t (z:Int)(h:(Lit.int .i64 z).wf=true):a0i z:=by
 simp[Lit.wf,IntKind.min,IntKind.max,IntKind.signed,IntKind.bits] at h;exact⟨by omega,by omega⟩
def DtsA (n₀:Nat)(W:World)(a:Option Addr)(l:List Dt):Prop :=
 ∀j,(h:j<l.length)→∃b off,a=some ⟨b,off,none⟩∧b<n₀∧DtRow W b (off+j*4) l[j]∧(a0i l[j].x∧a0i l[j].y∧a0i l[j].k∧a0i l[j].i)
theorem DtsA.below {n₀:Nat}{A B:World}(h:Below n₀ A B){a:Option Addr}{l:List Dt}(r:DtsA n₀ A a l):DtsA n₀ B a l:=fun j hj=>by
 obtain⟨b,off,h1,h2,h3,h4⟩:=r j hj;exact⟨b,off,h1,h2,h3.below h h2,h4⟩
theorem DtsA.up {n₀ n₁:Nat}(hn:n₀≤n₁){A:World}{a:Option Addr}{l:List Dt}(r:DtsA n₀ A a l):DtsA n₁ A a l:=fun j hj=>by
 obtain⟨b,off,h1,h2,h3,h4⟩:=r j hj;exact⟨b,off,h1,by omega,h3,h4⟩
instance:Inhabited Dt:=⟨⟨0,0,0,0⟩⟩
end
end
end Go.Proofs.YtfocdbjceedagaaGreatDoor
