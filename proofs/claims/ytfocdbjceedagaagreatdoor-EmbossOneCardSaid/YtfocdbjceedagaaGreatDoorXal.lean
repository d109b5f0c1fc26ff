/-
  Parts.
-/
import Derived.Test.YtfocdbjceedagaaGreatDoorXak
import Derived.Deep.Slices
import Derived.Lib.Mul64
import Derived.Laws.Bits64b
import Derived.IntWalk
import Derived.Laws.ResultCell
set_option linter.unusedVariables false
set_option linter.unusedSimpArgs false
set_option maxHeartbeats 4000000
set_option maxRecDepth 100000
namespace Go.Proofs.YtfocdbjceedagaaGreatDoor
open Tryz
section
open Go.RowKit Go.Shelf
attribute [local go_sem] Oper.semAt_some
def d2l (s:ByteArray):Prop:=∀i (h:i<s.size),48≤(s[i]).toNat∧(s[i]).toNat≤57
def a9y (b:Nat)(s:ByteArray)(w:World):Nat:=match w.heap[b]? with|some (.stringIter _ p)=>s.size-p|_=>0
theorem a4z (w:World)(s:ByteArray)(n:Nat):a9y w.heap.size s (w.iter s n)=s.size-n:=by
 unfold a9y;rw[World.iter_heap]
theorem c1n (s:ByteArray)(hd:d2l s)(hl:s.size≤1000000)(w:World):Calls prog 113 #[.string s] w fun e w'=>e= .returned (.bool true)∧Below w.heap.size w w':=by
 go_enter func113,ntmps113;go_wp2_with fail;go_loopw [7] (fun _ W=>∃n:Nat,n≤s.size∧W=w.iter s n) (fun _ W=>a9y w.heap.size s W)
 case atStart=>exact⟨0,Nat.zero_le _,rfl⟩
 case round =>
  obtain⟨n,hn,rfl⟩:=hrel;by_cases hlt:n<s.size
  ·obtain⟨h0,h1⟩:=hd n hlt
   have hr:∀ty,(Instr.next (.pointer (some ⟨w.heap.size,0,none⟩)) true ty).run prog (w.iter s n)= .ok (.tuple #[.bool true,.int .i64 n,.int .i32 (s[n]'hlt).toNat]) (w.iter s (n+1)):=fun ty=>run_next_ascii w s n ty hlt (by omega)
   obtain⟨c,hc⟩:∃c,(s[n]'hlt).toNat=c:=⟨_,rfl⟩;rw[hc] at h0 h1 hr;clear hc hd;have k0:¬(c:Int)<32:=by omega
   have k1:¬(126:Int)<c:=by omega
   have k2:¬(c:Int)=34:=by omega
   go_wp2_with fail;go_roundw
   case rel=>exact⟨n+1,by omega,rfl⟩
   case measure=>rw[a4z,a4z];omega
  ·obtain rfl:n=s.size:=by omega
   have hr:∀ty,(Instr.next (.pointer (some ⟨w.heap.size,0,none⟩)) true ty).run prog (w.iter s s.size)= .ok (.tuple #[.bool false]) (w.iter s s.size):=fun ty=>run_next_end w s s.size ty (by omega)
   go_wp2_with fail;go_ret;exact⟨rfl,(zR _ _).alloc (yR _) _⟩
theorem c7y (l:List UInt8)(c:UInt8)(r:List UInt8)(h:l=c::r)(hc:c.toNat≤57):∀x∈wordsL,Lib.hasPrefix l x.data.toList=false:=by
 subst h;have h2:∀a:UInt8,97≤a.toNat→(a==c)=false:=fun a ha=>by
  rw[beq_eq_false_iff_ne];intro e;subst e;omega
 intro x hx;simp only[wordsL,List.mem_cons,List.not_mem_nil,or_false] at hx;rcases hx with rfl|rfl|rfl|rfl|rfl|rfl|rfl|rfl|rfl|rfl|rfl <;>
 ·unfold Lib.hasPrefix
  simp only[List.isPrefixOf_cons_cons];rw[h2 _ (by decide)];rfl
theorem b0z (x s:ByteArray)(k:Nat)(sb kb:Nat)(w:World)(hk0:k<s.size)(hl:s.size≤1000000)(hs:w.cell? ⟨sb,0,none⟩=some (.string s))(hk:w.cell? ⟨kb,0,none⟩=some (.int .i64 k)) :
 Calls prog 116 #[.string x,.pointer (some ⟨sb,0,none⟩),.pointer (some ⟨kb,0,none⟩)] w fun e w'=>e= .returned (.bool (Lib.hasPrefix ((s.data.toList.drop k).take (s.size-k)) x.data.toList))∧w'=w:=by
 go_enter func116,ntmps116;go_wp2_with (go_at_call 117;refine (Tryz.strings_HasPrefix _ _ _).mono ?_;rintro e w'⟨rfl,rfl⟩);go_ret;exact⟨rfl,rfl⟩
theorem c4r (s:ByteArray)(k:Nat)(h:k<s.size):∃r,(s.data.toList.drop k).take (s.size-k)=s[k]::r:=by
 have h2:k<s.data.toList.length:=by simpa using h
 rw[List.drop_eq_getElem_cons h2,show s.size-k=(s.size-k-1)+1 from by omega,List.take_succ_cons];exact⟨_,rfl⟩
theorem c1o (s:ByteArray)(k sb kb:Nat)(w:World)(hd:d2l s)(hk0:k<s.size)(hl:s.size≤1000000)(hs:w.cell? ⟨sb,0,none⟩=some (.string s))(hk:w.cell? ⟨kb,0,none⟩=some (.int .i64 k)) :
 Calls prog 114 #[.slice (some ⟨w.heap.size,0,none⟩) 11 11,.func (.func 116) #[] #[.pointer (some ⟨sb,0,none⟩),.pointer (some ⟨kb,0,none⟩)]] (w.alloc (.cells a3w 9)) fun e w'=>e= .returned (.int .i64 (-1))∧∃q,w'=(w.alloc (.cells a3w 9)).drewN q:=by
 have hc:∀j,j<wordsL.length→(w.alloc (.cells a3w 9)).cell? ⟨w.heap.size,0+j,none⟩=some (Value.string wordsL[j]!):=by
  intro j hj;refine (a4w (heap_alloc_last w _) (0+j)).trans ?_;match j,hj with
  |0,_=>rfl
  |1,_=>rfl
  |2,_=>rfl
  |3,_=>rfl
  |4,_=>rfl
  |5,_=>rfl
  |6,_=>rfl
  |7,_=>rfl
  |8,_=>rfl
  |9,_=>rfl
  |10,_=>rfl
  |j+11,h=>exact absurd h (by simp[wordsL])
 have hp:PredAt prog 116 #[.pointer (some ⟨sb,0,none⟩),.pointer (some ⟨kb,0,none⟩)] Value.string (fun x=>Lib.hasPrefix ((s.data.toList.drop k).take (s.size-k)) x.data.toList) (w.alloc (.cells a3w 9)):=by
  intro W x hb;have lt1:sb<w.heap.size:=World.block_lt_of_cell? _ _ hs;have lt2:kb<w.heap.size:=World.block_lt_of_cell? _ _ hk;refine (b0z x s k sb kb W hk0 hl ?_ ?_).mono ?_
  ·rw[hb.cell (p:=⟨sb,0,none⟩) (by rw[World.size_alloc];simp only;omega),World.cell?_alloc_lt w _ _ lt1];exact hs
  ·rw[hb.cell (p:=⟨kb,0,none⟩) (by rw[World.size_alloc];simp only;omega),World.cell?_alloc_lt w _ _ lt2];exact hk
  ·rintro e w'⟨rfl,rfl⟩
   exact⟨rfl,0,rfl⟩
 refine (Tryz.slices_IndexFunc_f114 Value.string (fun x=>Lib.hasPrefix ((s.data.toList.drop k).take (s.size-k)) x.data.toList) 116 _ (enters_of func116 (by kernel_rfl) rfl) w.heap.size 0 11 11 wordsL _ hp (by decide) (by decide) hc).mono ?_;rintro e w'⟨rfl,h⟩;refine⟨?_,h⟩;obtain⟨r,hr⟩:=c4r s k hk0;have h2:Lib.idxBy (fun _ y=>Lib.hasPrefix ((s.data.toList.drop k).take (s.size-k)) y.data.toList) (wordsL.take 11) default = -1:=c0h _ 0 (fun x hx=>c7y _ _ _ hr (hd k hk0).2 x (List.mem_of_mem_take hx));rw[h2]
theorem b6g (c:Int)(h0:48≤c)(h1:c≤57)(w:World):Calls prog 120 #[.string ⟨#[32,44,39,45,46]⟩,.int .u8 c] w fun e w'=>e= .returned (.int .i64 (-1))∧w'=w:=by
 refine (Tryz.strings_IndexByte _ _ _).mono ?_;rintro e w'⟨rfl,rfl⟩;have:∀n:Nat,n<10→Lib.indexByte (⟨#[32,44,39,45,46]⟩:ByteArray).data.toList ((48+(n:Int)).toNat.toUInt8) = -1:=by decide +kernel
 have h2:=this (c-48).toNat (by omega);rw[show 48+(((c-48).toNat:Nat):Int)=c from by omega] at h2;exact⟨by rw[h2],rfl⟩
def c2z (c:Nat):Nat:=match c with|48=>26|49=>1|50=>3|51=>9|52=>25|53=>17|54=>11|55=>27|56=>19|_=>10
def lettersB:ByteArray:=⟨#[1,3,9,25,17,11,27,19,10,26,5,7,13,29,21,15,31,23,14,30,37,39,58,45,61,53]⟩
def b3v (s:ByteArray):Nat→List UInt8
 |0=>[]
 |n+1=>(if n=0 then [60] else b3v s n)++[(c2z (s[n]!).toNat).toUInt8]
theorem b3w (s:ByteArray):∀n,(b3v s n).length≤n+1
 |0=>Nat.zero_le _
 |n+1=>by
  unfold b3v;have:=b3w s n;split <;> simp <;> omega
theorem a5a {x:Int}(h0 : -9223372036854775808≤x)(h1:x≤9223372036854775807):IntKind.i64.wrap x=x:=by
 simp[IntKind.wrap,IntKind.bits,IntKind.signed];omega
theorem c1p (c:Nat)(h0:48≤c)(h1:c≤57)(hh:(((c:Int)-48+9) % 10).toNat<lettersB.size):((lettersB[(((c:Int)-48+9) % 10).toNat]'hh).toNat:Int)=(c2z c:Nat):=by
 rcases (show c=48∨c=49∨c=50∨c=51∨c=52∨c=53∨c=54∨c=55∨c=56∨c=57 from by omega) with rfl|rfl|rfl|rfl|rfl|rfl|rfl|rfl|rfl|rfl <;> rfl
theorem d0y (c:Nat):c2z c<256:=by
 unfold c2z;split <;> omega
theorem BW.byteN {B sb b kb:Nat}{s:ByteArray}{k:Int}{l:List UInt8}{w0 w:World}(h:BW B sb b kb s k l w0 w)(c:Nat)(hc:c<256)(hl:l.length+1≤140737488355328) :
 Calls prog 118 #[.pointer (some ⟨b,0,none⟩),.int .u8 c] w fun e w'=>e= .returned .nilIface∧BW B sb b kb s k (l++[c.toUInt8]) w0 w' :=
 h.byte' c.toUInt8 c (by simp;omega) hl
def kOf (v:Value)(W:World):Nat:=match v with | .pointer (some a)=>(match W.cell? a with|some x=>(intOf x).toNat|none=>0)|_=>0
theorem BW.kOf {B sb b kb:Nat}{s:ByteArray}{k:Int}{l:List UInt8}{w0 w:World}(h:BW B sb b kb s k l w0 w):kOf (.pointer (some ⟨kb,0,none⟩)) w=k.toNat:=by
 unfold Go.Proofs.YtfocdbjceedagaaGreatDoor.kOf;simp only[h.ck,intOf]
theorem c1q (s:ByteArray)(hd:d2l s)(hl:s.size≤1000)(w:World):Calls prog 64 #[.string s] w fun e w'=>e= .returned (.tuple #[.string ⟨(b3v s s.size).toArray⟩,.int .i64 0])∧Below w.heap.size w w':=by
 go_enter func64,ntmps64;go_wp2_with (first
  |(go_at_call 113;refine (c1n s hd (by omega) _).mono ?_;rintro e w'⟨rfl,hb_⟩;obtain⟨p,rfl⟩:=a0e hb_;clear hb_)
  |fail)
 have hB:=BW.start w s p;obtain⟨W,hW⟩:∃W,((((w.alloc (.cells #[.string s] 9)).growBy p).alloc (.cells #[.pointer none,.slice none 0 0] 178)).alloc (.cells #[.int .i64 0] 3))=W:=⟨_,rfl⟩;obtain⟨b,hb⟩:∃b,w.heap.size+1+p.objs.size=b:=⟨_,rfl⟩;rw[hW] at hB ⊢;rw[hb] at hB ⊢;obtain⟨kb,hkb⟩:∃kb,b+1=kb:=⟨_,rfl⟩;obtain⟨sb,hsb⟩:∃sb,w.heap.size=sb:=⟨_,rfl⟩;rw[hkb] at hB ⊢;rw[hsb] at hB ⊢;replace hsb:=Lib.hid hsb;clear hkb hb hW;go_loopw [5] (fun v wr=>∃(n kb:Nat),v= .pointer (some ⟨kb,0,none⟩)∧n≤s.size∧BW sb sb b kb s n (b3v s n) w wr) (fun v wr=>s.size-kOf v wr)
 case atStart=>exact⟨0,kb,rfl,Nat.zero_le _,hB⟩
 case round =>
  clear hB;obtain⟨n,kb,rfl,hn,hB⟩:=hrel;have hcs:=hB.cs;have hck:=hB.ck;have hfk:=hB.fk;have hkn:=Lib.hid (hB.kOf);have hol:=b3w s n;by_cases hlt:n<s.size
  ·have hltI:(n:Int)<(s.size:Int):=by omega
   obtain⟨d0,d1⟩:=hd n hlt;have hout:b3v s (n+1)=(if n=0 then [60] else b3v s n)++[(c2z (s[n]'hlt).toNat).toUInt8]:=by
    show (if n=0 then [60] else b3v s n)++[(c2z (s[n]!).toNat).toUInt8]=_;rw[getElem!_pos s n hlt]
   have hix:=c1o s n sb kb;obtain⟨c,hc⟩:∃c,(s[n]'hlt).toNat=c:=⟨_,rfl⟩;rw[hc] at d0 d1 hout;have hlz:(lettersB.size:Int)=26:=rfl;have hla:=c1p c d0 d1;have hlb:=d0y c;by_cases hn0:n=0
   ·subst hn0
    simp only[if_true] at hout;replace hout:=Lib.hid hout;have h60:∀q,Calls prog 118 #[.pointer (some ⟨b,0,none⟩),.int .u8 60] ((wr.alloc (.cells a3w 9)).drewN q) fun e w'=>e= .returned .nilIface∧BW sb sb b kb s 0 ([]++[60]) w w':=fun q=>((hB.alloc _).drewN q).byte' 60 60 rfl (by omega)
    clear hB;go_wp2_with (first
     |(refine a0o (by rfl) 9 _ _ (by rfl) s .i64 0 (by rfl) (by rfl) underlying9 c (by omega) (by omega) (by rw[←hc];rfl) ?_)
     |(refine a0o (by rfl) 9 _ _ (by rfl) lettersB .u8 (((c:Int)-48+9) % 10) (by rfl) (by rfl) underlying9 (c2z c:Nat) (by omega) (by omega) (hla _) ?_)
     |(go_at_call 115;refine (a5q _).mono ?_;rintro e w'⟨rfl,rfl⟩)
     |(go_at_call 114;refine (hix _ hd hlt (by omega) hcs hck).mono ?_;rintro e w'⟨rfl,q,rfl⟩)
     |(go_at_call 120;refine (b6g c (by omega) (by omega) _).mono ?_;rintro e w'⟨rfl,rfl⟩)
     |(go_at_call 119;refine (a4q c true (by simp;omega) _).mono ?_;rintro e w'⟨rfl,rfl⟩)
     |(go_at_call 118;with_reducible refine (h60 q).mono ?_;rintro e w1⟨rfl,hB1⟩;have cs1:=hB1.cs;have ck1:=hB1.ck;have fk1:=hB1.fk)
     |(go_at_call 118;with_reducible refine (hB1.byteN (c2z c) hlb (by simp)).mono ?_;rintro e w2⟨rfl,hB2⟩;have cs2:=hB2.cs;have ck2:=hB2.ck;have fk2:=hB2.fk)
     |fail)
    refine⟨⟨1,w2.heap.size,rfl,by omega,?_⟩,?_⟩
    ·rw[hout.out]
     exact hB2.newk 1
    ·rw[(hB2.newk 1).kOf,hkn.out]
     simp;omega
   ·have hn1:0<(n:Int):=by omega
    have hn2:¬(n:Int)≤0:=by omega
    obtain⟨e0,e1⟩:=hd (n-1) (by omega);have hw0:IntKind.i64.wrap ((n:Int)-1)=(n:Int)-1:=a5a (by omega) (by omega);have hw1:IntKind.i64.wrap ((n:Int)+1)=(n:Int)+1:=a5a (by omega) (by omega);rw[if_neg hn0] at hout;replace hout:=Lib.hid hout;have hlt1:∀q,Calls prog 118 #[.pointer (some ⟨b,0,none⟩),.int .u8 (c2z c:Nat)] ((wr.alloc (.cells a3w 9)).drewN q) fun e w'=>e= .returned .nilIface∧BW sb sb b kb s n (b3v s n++[(c2z c).toUInt8]) w w':=fun q=>((hB.alloc _).drewN q).byteN (c2z c) hlb (by omega)
    clear hB;go_wp2_with (first
     |(refine a0o (by rfl) 9 _ _ (by rfl) s .i64 (n:Nat) (by rfl) (by rfl) underlying9 c (by omega) (by omega) (by rw[←hc];rfl) ?_)
     |(refine a0o (by rfl) 9 _ _ (by rfl) lettersB .u8 (((c:Int)-48+9) % 10) (by rfl) (by rfl) underlying9 (c2z c:Nat) (by omega) (by omega) (hla _) ?_)
     |(go_at_call 115;refine (a5q _).mono ?_;rintro e w'⟨rfl,rfl⟩)
     |(go_at_call 114;refine (hix _ hd hlt (by omega) hcs hck).mono ?_;rintro e w'⟨rfl,q,rfl⟩)
     |(go_at_call 120;refine (b6g c (by omega) (by omega) _).mono ?_;rintro e w'⟨rfl,rfl⟩)
     |(go_at_call 119;with_reducible refine (a4q c true (by simp;omega) _).mono ?_;rintro e w'⟨rfl,rfl⟩)
     |(go_at_call 119;with_reducible refine (a4q _ true (by simp;omega) _).mono ?_;rintro e w'⟨rfl,rfl⟩)
     |(go_at_call 118;with_reducible refine (hlt1 q).mono ?_;rintro e w2⟨rfl,hB2⟩;have cs2:=hB2.cs;have ck2:=hB2.ck;have fk2:=hB2.fk)
     |fail)
    refine⟨⟨n+1,w2.heap.size,rfl,by omega,?_⟩,?_⟩
    ·rw[hout.out]
     exact hB2.newk _
    ·rw[(hB2.newk _).kOf,hkn.out]
     simp;omega
  ·obtain rfl:n=s.size:=by omega
   go_wp2_with (first
    |(go_at_call 121;refine (Tryz.Builder_String_any_k sb b (b3v s s.size) _ hB.bld hB.le).mono ?_;rintro e w3⟨rfl,hI3,hb3,ho3⟩)
    |fail)
   go_ret2;exact⟨rfl,by rw[hsb.out];exact hB.below.trans hb3⟩
end
section
open Go.RowKit Go.Shelf Go.Lib Go.Sort
attribute [local go_sem] Oper.semAt_some
attribute [local go_sem ↓] Go.wp_at_zero Go.wp_at_succ
theorem b6h {W:World}{b b':Nat}{e:TypeId}{s:Nat}{v:Value}{n:Nat}{xs:List Value}(h:W.ownsRow b e s v n xs)(hb:b'≤b):W.ownsRow b' e s v n xs:=by
 refine⟨h.1,h.2.imp id ?_⟩;rintro⟨g,cap,cur,h1,h2,h3⟩;exact⟨g,cap,cur,h1,by omega,h3⟩
theorem a1i {n:Nat}{w w':World}{o:Option Nat}(hg:w.grownBy w' o)(hn:n≤w.heap.size)(h:∀k,o=some k→n≤k):Below n w w' :=
 ⟨hg.os,hg.tape,hg.output,hg.size,fun k hk=>hg.block k (Nat.lt_of_lt_of_le hk hn) (fun e=>by have:=h k e.symm;omega)⟩
end
section
open Go Go.RowKit Go.Shelf
section
variable {α:Type}{E:El α}{P:Program}{st:TypeId}
theorem El.append_join (hE:E.Ok)(hI:E.In P st)(W:World)(base:Nat)(v xv:Value)(l l2:List α)(ty:TypeId)(hv:W.ownsRow base E.t E.s v l.length (l.flatMap E.enc))(hsm:∃g c,v= .slice (some ⟨g,0,none⟩) l.length c){n0:Nat}(hx:Lst E n0 W xv l2)(hf:Frm xv l2.length)(hl:l.length+l2.length≤100000)(hb:base≤W.heap.size) :
 ∃v' W',(Builtin.append_ #[st,st] ty #[v,xv]).run P W= .ok v' W'∧W'.ownsRow base E.t E.s v' (l++l2).length ((l++l2).flatMap E.enc)∧W.grownBy W' v.ownBlock∧Below base W W'∧∃g cap,v'= .slice (some ⟨g,0,none⟩) (l++l2).length cap:=by
 obtain⟨i0,z,hi0,hz0,hz1,hz2,hz3⟩:=hI.info;obtain⟨g,c,rfl⟩:=hsm;by_cases hne:l2=[]
 ·subst hne
  have hs:Src P i0.size st xv 0 [] W:=by
   rcases hf with rfl|⟨b,off,cap,rfl⟩
   ·exact Src.ofNil W hI.under 0
   ·exact Src.ofSlice W hI.under _ 0 cap [] (by simp) (by simp) (by simp)
  have hlc:l.length+0≤c:=by
   rcases hv.2 with ⟨e,-⟩|⟨g',cap',cur,e,-,-,h1,-⟩
   ·cases e
   ·simp only[Value.slice.injEq,true_and] at e
    omega
  have hr:=run_append_room_src (P:=P) W st st ty E.t i0 hI.under hi0 g 0 l.length c xv 0 [] hs hlc (by simp) (by simp);refine⟨_,_,hr,?_,?_,?_,g,c,?_⟩
  ·rw[List.append_nil];exact hv
  ·exact⟨rfl,rfl,rfl,yR _,fun _ _ _=>rfl⟩
  ·exact⟨rfl,rfl,rfl,yR _,fun _ _=>rfl⟩
  ·rw[List.append_nil];rfl
 ·have hpos:0<l2.length:=List.length_pos_iff.2 hne
  obtain⟨b,off,cap,rfl,hcap,hbn,-⟩:=hx.some_ hpos;have hnews:∀j u,(l2.flatMap E.enc)[j]? =some u→W.cell? ((⟨b,off,none⟩:Addr).add j)=some u:=fun j u hj=>by
   rw[Addr.add_lit];exact hx.flat hE j u hj
  obtain⟨v',W',hr,hown,hg,-,-⟩:=run_append_own_at (P:=P) W base st ty E.t i0 _ E.s i0.bytes hI.under hi0 hz0 hz1 rfl hz3 hE.pos _ l.length _ hv ⟨b,off,none⟩ l2.length cap (l2.flatMap E.enc) (a1c hE l2) hnews (a4x hE l2) (by unfold maxLen;omega) (Nat.le_trans (Nat.mul_le_mul (show l.length+l2.length≤100000 by omega) hz2) (by decide)) hb;have hform:∃g cap,v'= .slice (some ⟨g,0,none⟩) (l++l2).length cap:=by
   rw[List.length_append];rcases hown.2 with ⟨-,e⟩|⟨g',cap',cur,e,-⟩
   ·omega
   ·exact⟨g',cap',e⟩
  refine⟨v',W',hr,?_,hg,a1i hg hb (fun k e=>(hv.lt k e).1),hform⟩;rw[List.length_append,List.flatMap_append];exact hown
end
end
section
open Go.RowKit Go.Shelf
attribute [local go_sem] Oper.semAt_some
attribute [local go_sem ↓] Go.wp_at_zero Go.wp_at_succ
theorem a5b:∀(k n:Nat),n<10 ^ (k+1)→(Lib.decDigits n).length≤k+1
 |0,n,h=>by
  rw[Lib.decDigits,dif_pos (by simpa using h)];simp
 |k+1,n,h=>by
  rw[Lib.decDigits];split
  ·simp
  ·have h2:=a5b k (n / 10) (by rw[Nat.pow_succ] at h;omega)
   rw[List.length_append];simp;omega
def b1z (n:Nat):ByteArray:=⟨(Lib.decDigits n).toArray⟩
theorem a7q (n:Nat):(b1z n).size=(Lib.decDigits n).length:=by
 show (Lib.decDigits n).toArray.size=_;simp
theorem b6i (n:Nat):d2l (b1z n):=by
 have h:∀k n,n<k→∀c∈Lib.decDigits n,48≤c.toNat∧c.toNat≤57:=by
  intro k;induction k with
  |zero=>intro n h;omega
  |succ k ih =>
   intro n h c hc;rw[Lib.decDigits] at hc;have hd:∀m,m<10→48≤(UInt8.ofNat (48+m)).toNat∧(UInt8.ofNat (48+m)).toNat≤57:=fun m hm=>by
    rw[UInt8.toNat_ofNat'];omega
   split at hc
   ·rename_i hn
    rw[List.mem_singleton.1 hc];exact hd n hn
   ·rcases List.mem_append.1 hc with hc|hc
    ·exact ih (n / 10) (by omega) c hc
    ·rw[List.mem_singleton.1 hc]
     exact hd _ (Nat.mod_lt _ (by omega))
 intro i hi;have hl:i<(Lib.decDigits n).length:=by rw[←a7q];exact hi
 exact h (n+1) n (by omega) _ (List.getElem_mem hl)
end
end Go.Proofs.YtfocdbjceedagaaGreatDoor
namespace Go
open Go.RowKit Go.Shelf
theorem World.setCell_id (w:World)(b o:Nat)(v:Value)(h:w.cell? ⟨b,o,none⟩=some v):w.setCell ⟨b,o,none⟩ v=w:=by
 obtain⟨heap,tape,drawn,os,output⟩:=w;unfold World.setCell;simp only[World.mk.injEq,and_true];apply Array.ext_getElem?;intro i;simp only[Array.getElem?_modify];by_cases hb:b=i
 ·subst hb
  unfold World.cell? at h;simp only[if_true]
  cases hx:heap[b]? with
  |none=>rfl
  |some x =>
   rw[show ({ heap:=heap,tape:=tape,drawn:=drawn,os:=os,output:=output }:World).heap[b]? =some x from hx] at h
   cases x <;> try rfl
   rename_i c t f;simp at h ⊢;have h':c[o]? =some v:=h;obtain⟨hl,hv⟩:=Array.getElem?_eq_some_iff.1 h';apply Array.ext_getElem?;intro j;rw[Array.getElem?_setIfInBounds];split
   ·rename_i e;subst e;exact h'.symm
   ·rfl
 ·simp[hb]
end Go
namespace Go.Proofs.YtfocdbjceedagaaGreatDoor
open Go.RowKit Go.Shelf
attribute [local go_sem] Oper.semAt_some
def Ints (n₀:Nat)(W:World)(sv:Value)(xs:List Int):Prop :=
 ∃a cap,sv= .slice a xs.length cap∧∀j,(h:j<xs.length)→∃b off,a=some ⟨b,off,none⟩∧b<n₀∧a0k xs[j]∧W.cell? ⟨b,off+j,none⟩=some (.int .i64 xs[j])
theorem Ints.below {n₀:Nat}{A B:World}(h:Below n₀ A B){sv:Value}{xs:List Int}:Ints n₀ A sv xs→Ints n₀ B sv xs
 |⟨a,cap,e,f⟩=>⟨a,cap,e,fun j hj=>by
  obtain⟨b,off,h1,h2,h3,h4⟩:=f j hj;exact⟨b,off,h1,h2,h3,(h.cell (p:=⟨b,off+j,none⟩) h2).trans h4⟩⟩
def b8p (xs:List Int)(j:Nat)(m:Int):Int:=xs.getD j 0 % m
theorem c7z (xs:List Int)(j:Nat){m:Int}(h:1≤m):0≤b8p xs j m∧b8p xs j m<m:=⟨Int.emod_nonneg _ (by omega),Int.emod_lt_of_pos _ (by omega)⟩
theorem Below.of_grown {n₀:Nat}{W W':World}{row:Option Nat}(hg:W.grownBy W' row)(hn:n₀≤W.heap.size)(hr:∀r,row=some r→n₀≤r):Below n₀ W W' :=
 ⟨hg.os,hg.tape,hg.output,hg.size,fun i hi=>hg.block i (by omega) (fun e=>by have:=hr i e.symm;omega)⟩
theorem b3x (W:World)(b i:Nat)(v:Value)(p:Growth):W.grownBy ((W.setCell ⟨b,i,none⟩ v).growBy p) (some b):=by
 refine⟨rfl,rfl,rfl,by simp,fun k hk hne=> ?_⟩;rw[World.heap_growBy _ _ (by simpa using hk)];exact Below.heap_setCell _ _ _ _ (fun e=>hne (by rw[e]))
end Go.Proofs.YtfocdbjceedagaaGreatDoor
namespace Go.Proofs.YtfocdbjceedagaaGreatDoor
open Tryz
section
open Go.RowKit Go.Shelf
section
variable {H:Type}{enc:TypeId×Value→H}{P:Program}{W:World}{base:Nat}{sp:Nat→Bool}{hd:Bool}{t e:TypeId}{v:Value}
theorem c8a (z:Int)(h:(Lit.int .i64 z).wf=true):a0k z:=by
 simp[Lit.wf,IntKind.min,IntKind.max,IntKind.signed,IntKind.bits] at h;exact⟨by omega,by omega⟩
instance:Inhabited Dt:=⟨⟨0,0,0,0⟩⟩
end
end
section
open Go Go.RowKit Go.Shelf Go.Lib
attribute [local go_sem] Oper.semAt_some
attribute [local go_sem ↓] Go.wp_at_zero Go.wp_at_succ
abbrev dtE:El Dt:=⟨54,4,b5y⟩
theorem a6m:dtE.Ok:=⟨fun _=>rfl,by decide,fun x u hu=>by
 simp at hu;rcases hu with rfl|rfl|rfl|rfl <;> rfl⟩
theorem d3o:dtE.In prog 41:=El.in_of (z:= .agg #[.int .i64 0,.int .i64 0,.int .i64 0,.int .i64 0]) (s:=4) (bytes:=32) underlying41 (by kernel_rfl) rfl (by omega) rfl
abbrev lfE:El Lf:=⟨68,3,fun l=>[.int .i64 l.p,.int .i64 l.k,.int .i64 l.i]⟩
theorem a7r:lfE.Ok:=⟨fun _=>rfl,by decide,fun x u hu=>by
 simp at hu;rcases hu with rfl|rfl|rfl <;> rfl⟩
theorem d2g:lfE.In prog 43:=El.in_of (z:= .agg #[.int .i64 0,.int .i64 0,.int .i64 0]) (s:=3) (bytes:=24) underlying43 (by kernel_rfl) rfl (by omega) rfl
abbrev keE:El Ke:=⟨82,3,fun k=>[.int .i64 k.n,.int .i64 k.p,.string k.c]⟩
theorem b7x:keE.Ok:=⟨fun _=>rfl,by decide,fun x u hu=>by
 simp at hu;rcases hu with rfl|rfl|rfl <;> rfl⟩
theorem d3t:keE.In prog 42:=El.in_of (z:= .agg #[.int .i64 0,.int .i64 0,.string ⟨#[]⟩]) (s:=3) (bytes:=32) underlying42 (by kernel_rfl) rfl (by omega) rfl
abbrev dtV (d:Dt):Value:= .agg #[.int .i64 d.x,.int .i64 d.y,.int .i64 d.k,.int .i64 d.i]
structure Sm (d:Dt):Prop where
 x0 : -1000000≤d.x
 x1:d.x≤1000000
 y0 : -1000000≤d.y
 y1:d.y≤1000000
instance:Inhabited Lf:=⟨⟨0,0,0⟩⟩
instance:Inhabited Ke:=⟨⟨0,0,⟨#[]⟩⟩⟩
def a6n (g:Int)(a b:Dt):Bool:=(decide (a.k≠b.k)||decide (a.i≠b.i))&&(decide (max (IntKind.i64.wrap (a.x-b.x)) (IntKind.i64.wrap (b.x-a.x))<g)&&decide (max (IntKind.i64.wrap (a.y-b.y)) (IntKind.i64.wrap (b.y-a.y))<g))
theorem b3y {g:Int}{a b:Dt}(ha:Sm a)(hb:Sm b):a6n g a b=b3s g a b:=by
 obtain⟨a0,a1,a2,a3⟩:=ha;obtain⟨b0,b1,b2,b3⟩:=hb;unfold a6n b3s;rw[a0u (x:=a.x-b.x) (by omega) (by omega),a0u (x:=b.x-a.x) (by omega) (by omega),a0u (x:=a.y-b.y) (by omega) (by omega),a0u (x:=b.y-a.y) (by omega) (by omega)]
theorem b2v (a b:Dt)(g:Int)(w:World) :
 Calls prog 88 #[dtV a,dtV b,.int .i64 g] w fun e w'=>e= .returned (.bool (a6n g a b))∧Below w.heap.size w w':=by
 obtain⟨ax,ay,ak,ai⟩:=a;obtain⟨bx,b_y,bk,bi⟩:=b;obtain⟨r,hr⟩:∃r,a6n g ⟨ax,ay,ak,ai⟩ ⟨bx,b_y,bk,bi⟩=r:=⟨_,rfl⟩;rw[hr];unfold a6n at hr;simp only at hr;obtain⟨u1,e1⟩:∃u,IntKind.i64.wrap (ax-bx)=u:=⟨_,rfl⟩;obtain⟨u2,e2⟩:∃u,IntKind.i64.wrap (bx-ax)=u:=⟨_,rfl⟩;obtain⟨u3,e3⟩:∃u,IntKind.i64.wrap (ay-b_y)=u:=⟨_,rfl⟩;obtain⟨u4,e4⟩:∃u,IntKind.i64.wrap (b_y-ay)=u:=⟨_,rfl⟩;rw[e1,e2,e3,e4] at hr;obtain⟨tk,htk⟩:∃t,(!(ak==bk))=t:=⟨_,rfl⟩;obtain⟨ti,hti⟩:∃t,(!(ai==bi))=t:=⟨_,rfl⟩;obtain⟨tx,htx⟩:∃t,decide (max u1 u2<g)=t:=⟨_,rfl⟩;obtain⟨ty,hty⟩:∃t,decide (max u3 u4<g)=t:=⟨_,rfl⟩;have k1:decide (ak≠bk)=tk:=by rw[←htk];exact Bool.eq_iff_iff.2 (by simp)
 have k2:decide (ai≠bi)=ti:=by rw[←hti];exact Bool.eq_iff_iff.2 (by simp)
 rw[k1,k2,htx,hty] at hr;clear k1 k2;replace hr:=Lib.hid hr;go_enter func88,ntmps88;go_wp2_with fail
 all_goals (go_ret;refine⟨?_,zC⟩;have h2:=hr.out;clear hr;first|(simp_all [bne];done)|(cases tk <;> cases ti <;> simp_all [bne]))
def b7y (o:Option Nat):Int:=match o with|some k=>(k:Nat)|none => -1
theorem a4s {α:Type}(p:α→Bool)(d:α):∀(l:List α)(i:Nat),Lib.idxByFrom (fun _ y=>p y) d l i=match l.findIdx? p with|some k=>((i+k:Nat):Int)|none => -1
 |[],i=>rfl
 |y::l,i=>by
  unfold Lib.idxByFrom;rw[List.findIdx?_cons]
  cases h:p y with
  |true=>simp
  |false =>
   rw[a4s p d l (i+1)]
   cases l.findIdx? p with
   |none=>rfl
   |some k=>show ((i+1+k:Nat):Int)=((i+(k+1):Nat):Int);congr 1;omega
theorem a5c {α:Type}(p:α→Bool)(d:α)(l:List α):Lib.idxBy (fun _ y=>p y) l d=b7y (l.findIdx? p):=by
 unfold Lib.idxBy;rw[a4s]
 cases l.findIdx? p <;> simp[b7y]
theorem c1r (a b:Dt)(g:Int)(A G:Nat)(w:World)(hA:Blk w A #[.int .i64 a.x,.int .i64 a.y,.int .i64 a.k,.int .i64 a.i] 54)(hG:w.cell? ⟨G,0,none⟩=some (.int .i64 g)) :
 Calls prog 87 #[dtV b,.pointer (some ⟨A,0,none⟩),.pointer (some ⟨G,0,none⟩)] w fun e w'=>e= .returned (.bool (a6n g a b))∧Below w.heap.size w w':=by
 have h0:=b2v a b g;obtain⟨ax,ay,ak,ai⟩:=a;obtain⟨bx,b_y,bk,bi⟩:=b;obtain⟨r,hr⟩:∃r,a6n g ⟨ax,ay,ak,ai⟩ ⟨bx,b_y,bk,bi⟩=r:=⟨_,rfl⟩;rw[hr] at h0 ⊢;clear hr;have c0:=hA.cell 0;have c1:=hA.cell 1;have c2:=hA.cell 2;have c3:=hA.cell 3;simp only at c0 c1 c2 c3;replace c0:w.cell? ⟨A,0,none⟩=some (.int .i64 ax):=c0;replace c1:w.cell? ⟨A,1,none⟩=some (.int .i64 ay):=c1;replace c2:w.cell? ⟨A,2,none⟩=some (.int .i64 ak):=c2;replace c3:w.cell? ⟨A,3,none⟩=some (.int .i64 ai):=c3;go_enter func87,ntmps87;go_wp2_with (go_at_call 88;refine (h0 _).mono ?_;rintro e w'⟨rfl,hb_⟩;obtain⟨p,rfl⟩:=a0e hb_;clear hb_);go_ret;exact⟨rfl,zC⟩
theorem a3t {α:Type} [Inhabited α]{E:El α}{W:World}{n0 b off cap:Nat}{l:List α}(h:Lst E n0 W (.slice (some ⟨b,off,none⟩) l.length cap) l)(hlen:∀x,(E.enc x).length=E.s):∀j,j<l.length→∀i v,(E.enc l[j]!)[i]? =some v→W.cell? ⟨b,off+j*E.s+i,none⟩=some v:=by
 intro j hj i v hv;obtain⟨b',off',cap',e,-,-,hc⟩:=h.some_ (by omega);simp only[Value.slice.injEq,Option.some.injEq,Addr.mk.injEq] at e;obtain⟨⟨rfl,rfl,-⟩,-,-⟩:=e;have hi:=(List.getElem?_eq_some_iff.1 hv).1;rw[hlen] at hi;rw[getElem!_pos l j hj] at hv;rw[←hv];exact hc j hj i hi
theorem d0e {α:Type}{E:El α}{W:World}{n0 b off cap:Nat}{l:List α}(h:Lst E n0 W (.slice (some ⟨b,off,none⟩) l.length cap) l)(hl:l≠[]):b<n0:=by
 obtain⟨b',off',cap',e,-,hb,-⟩:=h.some_ (List.length_pos_iff.2 hl);simp only[Value.slice.injEq,Option.some.injEq,Addr.mk.injEq] at e;obtain⟨⟨rfl,rfl,-⟩,-,-⟩:=e;exact hb
theorem c8b (a:Option Addr)(c:Nat)(fv:Value)(w:World):Calls prog 45 #[.slice a 0 c,fv] w fun e w'=>e= .returned (.int .i64 (-1))∧Below w.heap.size w w':=by
 go_enter func45,ntmps45;go_wp2_with fail;refine wp_loop_rounds 1 ?_;rw[rounds_succ];go_wp2_with fail;go_ret;exact⟨rfl,zC⟩
theorem c8c (a:Option Addr)(c:Nat)(fv:Value)(w:World):Calls prog 152 #[.slice a 0 c,fv] w fun e w'=>e= .returned (.int .i64 (-1))∧Below w.heap.size w w':=by
 go_enter func152,ntmps152;go_wp2_with fail;refine wp_loop_rounds 1 ?_;rw[rounds_succ];go_wp2_with fail;go_ret;exact⟨rfl,zC⟩
theorem a5d (v:Value)(l:List Dt)(w:World)(h:Lst dtE w.heap.size w v l)(hf:Frm v l.length)(p:Dt→Bool)(g:Nat)(lb:Array Value)(eg:∀args w,(callFunc g args).run prog w= .ok (.enter g args) w)(hp:PredBelow prog g lb (fun x:Dt=> .agg (b5y x).toArray) p w) :
 Calls prog 45 #[v,.func (.func g) #[] lb] w fun e w'=>e= .returned (.int .i64 (b7y (l.findIdx? p)))∧Below w.heap.size w w':=by
 by_cases hl:l=[]
 ·subst hl
  obtain⟨a,c,rfl,-⟩:=h.form;exact c8b a c _ w
 ·rcases hf with rfl|⟨b,off,cap,rfl⟩
  ·obtain⟨a,c,e,-⟩:=h.form
   simp only[Value.slice.injEq] at e;exact absurd (List.eq_nil_of_length_eq_zero e.2.1.symm) hl
  ·have hlen:=h.len
   refine (AnyQ.slices_IndexFunc Tryz.dotsIndex 4 isAgg54 sizeOf54 b5y (fun _=>rfl) p g lb eg b off l.length cap l w hp (yR _) (by omega) (d0e h hl) (a3t h (fun _=>rfl))).mono ?_;rintro e w'⟨rfl,hb⟩;rw[List.take_length,a5c];exact⟨rfl,hb⟩
theorem b8q (v:Value)(l:List Lf)(w:World)(h:Lst lfE w.heap.size w v l)(hf:Frm v l.length)(p:Lf→Bool)(g:Nat)(lb:Array Value)(eg:∀args w,(callFunc g args).run prog w= .ok (.enter g args) w)(hp:PredBelow prog g lb (fun x:Lf=> .agg (lfE.enc x).toArray) p w) :
 Calls prog 152 #[v,.func (.func g) #[] lb] w fun e w'=>e= .returned (.int .i64 (b7y (l.findIdx? p)))∧Below w.heap.size w w':=by
 by_cases hl:l=[]
 ·subst hl
  obtain⟨a,c,rfl,-⟩:=h.form;exact c8c a c _ w
 ·rcases hf with rfl|⟨b,off,cap,rfl⟩
  ·obtain⟨a,c,e,-⟩:=h.form
   simp only[Value.slice.injEq] at e;exact absurd (List.eq_nil_of_length_eq_zero e.2.1.symm) hl
  ·have hlen:=h.len
   refine (AnyQ.slices_IndexFunc Tryz.leftIndex 3 isAgg68 sizeOf68 lfE.enc (fun _=>rfl) p g lb eg b off l.length cap l w hp (yR _) (by omega) (d0e h hl) (a3t h (fun _=>rfl))).mono ?_;rintro e w'⟨rfl,hb⟩;rw[List.take_length,a5c];exact⟨rfl,hb⟩
theorem d0z {α:Type}(p:α→Bool)(l:List α):decide (0≤b7y (l.findIdx? p))=l.any p:=by
 cases h:l.findIdx? p with
 |none =>
  rw[List.findIdx?_eq_none_iff] at h;rw[List.any_eq_false.2 (by simpa using h)];rfl
 |some k =>
  obtain⟨hk,h1,-⟩:=List.findIdx?_eq_some_iff_getElem.1 h;rw[List.any_eq_true.2 ⟨_,List.getElem_mem hk,h1⟩];show decide ((0:Int)≤(k:Nat))=true;exact decide_eq_true (by omega)
theorem b2e (v:Value)(l:List Dt)(w:World)(h:Lst dtE w.heap.size w v l)(hf:Frm v l.length)(p:Dt→Bool)(g:Nat)(lb:Array Value)(eg:∀args w,(callFunc g args).run prog w= .ok (.enter g args) w)(hp:PredBelow prog g lb (fun x:Dt=> .agg (b5y x).toArray) p w) :
 Calls prog 86 #[v,.func (.func g) #[] lb] w fun e w'=>e= .returned (.bool (l.any p))∧Below w.heap.size w w':=by
 have h0:=a5d v l w h hf p g lb eg hp;rw[←d0z];obtain⟨r,hr⟩:∃r,b7y (l.findIdx? p)=r:=⟨_,rfl⟩;rw[hr] at h0 ⊢;clear hr hp h;obtain⟨a,n,c,rfl⟩:∃a n c,v= .slice a n c:=by rcases hf with rfl|⟨b,off,cap,rfl⟩ <;> exact⟨_,_,_,rfl⟩
 clear hf;go_enter func86,ntmps86;go_wp2_with (go_at_call 45;refine (h0).mono ?_;rintro e w'⟨rfl,hb_⟩;obtain⟨p,rfl⟩:=a0e hb_;clear hb_);go_ret;exact⟨rfl,zC⟩
theorem c1s (a:Dt)(g:Int)(O G:Nat)(ov:Value)(o:List Dt)(n0:Nat)(w:World)(hO:w.cell? ⟨O,0,none⟩=some ov)(ho:Lst dtE w.heap.size w ov o)(hf:Frm ov o.length)(hG:w.cell? ⟨G,0,none⟩=some (.int .i64 g)) :
 Calls prog 85 #[dtV a,.pointer (some ⟨O,0,none⟩),.pointer (some ⟨G,0,none⟩)] w fun e w'=>e= .returned (.bool (o.any (a6n g a)))∧Below w.heap.size w w':=by
 obtain⟨oa,oc,rfl,-⟩:=ho.form;obtain⟨ax,ay,ak,ai⟩:=a;have hb1:Below w.heap.size w (w.alloc (.cells #[.int .i64 ax,.int .i64 ay,.int .i64 ak,.int .i64 ai] 54)):=(zR _ _).alloc (yR _) _;have h0:=b2e (.slice oa o.length oc) o (w.alloc (.cells #[.int .i64 ax,.int .i64 ay,.int .i64 ak,.int .i64 ai] 54)) (ho.up hb1) hf (a6n g ⟨ax,ay,ak,ai⟩) 87 #[.pointer (some ⟨w.heap.size,0,none⟩),.pointer (some ⟨G,0,none⟩)] (enters_of func87 (by kernel_rfl) rfl)
  (fun W x hb=>(c1r ⟨ax,ay,ak,ai⟩ x g w.heap.size G W ((Blk.new w #[.int .i64 ax,.int .i64 ay,.int .i64 ak,.int .i64 ai] 54).below hb (by simp)) ((hb.cell (p:=⟨G,0,none⟩) (by have:=World.block_lt_of_cell? _ _ hG;simp only[World.size_alloc];simp only at this;omega)).trans ((hb1.cell (p:=⟨G,0,none⟩) (World.block_lt_of_cell? _ _ hG)).trans hG))).mono fun _ _ ⟨he,h⟩=>⟨he,hb.trans (h.mono hb.size)⟩)
 obtain⟨r,hr⟩:∃r,o.any (a6n g ⟨ax,ay,ak,ai⟩)=r:=⟨_,rfl⟩;rw[hr] at h0 ⊢;clear hr;go_enter func85,ntmps85;go_wp2_with (go_at_call 86;refine (h0).mono ?_;rintro e w'⟨rfl,hb_⟩;obtain⟨p,rfl⟩:=a0e hb_;clear hb_);go_ret;exact⟨rfl,zC⟩
theorem a1o {P:Program}{fn:Func}{p u:Tmp}{ty:TypeId}(h:fn.results= #[.cell p ty,.tmp u])(tmps:Array Value)(w:World)(g:Nat)(t:TypeId)(cs:Array Value)(fr:Nat×Nat)(d:TypeDesc)
 (hp:tmps.getD p undef= .pointer (some ⟨g,0,none⟩)) (hg:w.heap[g]? =some (.cells cs t fr)) (hu:P.underlying ty=some d) (hd:(match d with | .struct _ | .array _ _=>true|_=>false)=true) (hi:(P.info? ty).map (·.size)=some cs.size) :
 (results fn tmps).run P w= .ok (.tuple #[.agg cs,tmps.getD u undef]) w:=by
 rw[results_cell_tmp h,hp];simp[asAddr,run_loadVar_row w g t ty cs fr d hg hu hd hi,Result.andThen]
def c0i (g:Int)(l o:List Dt):Option Dt:=l.find? fun a=>o.any (a6n g a)
def c4s (o:Option Dt):Value:=match o with|some d=> .tuple #[dtV d,.bool true]|none=> .tuple #[dtV ⟨0,0,0,0⟩,.bool false]
theorem c0j {α:Type}(p:α→Bool)(l:List α):(l.findIdx? p=none∧l.find? p=none)∨∃k,∃h:k<l.length,l.findIdx? p=some k∧l.find? p=some l[k]:=by
 cases h:l.findIdx? p with
 |none =>
  left;rw[List.findIdx?_eq_none_iff] at h;exact⟨rfl,List.find?_eq_none.2 (by simpa using h)⟩
 |some k =>
  right;obtain⟨hk,h1,h2⟩:=List.findIdx?_eq_some_iff_getElem.1 h;refine⟨k,hk,rfl,?_⟩;rw[List.find?_eq_some_iff_getElem];exact⟨h1,k,hk,rfl,fun j hj=>by simpa using h2 j hj⟩
theorem b1a (g:Int)(lv ov:Value)(l o:List Dt)(w:World)(hl:Lst dtE w.heap.size w lv l)(hlf:Frm lv l.length)(ho:Lst dtE w.heap.size w ov o)(hof:Frm ov o.length) :
 Calls prog 36 #[lv,ov,.int .i64 g] w fun e w'=>e= .returned (c4s (c0i g l o))∧Below w.heap.size w w':=by
 obtain⟨oa,oc,rfl,-⟩:=ho.form;obtain⟨la,lc,rfl,-⟩:=hl.form;obtain⟨W,hW⟩:∃W,((w.alloc (.cells #[.slice oa o.length oc] 41)).alloc (.cells #[.int .i64 g] 3)).alloc (.cells #[.int .i64 0,.int .i64 0,.int .i64 0,.int .i64 0] 54)=W:=⟨_,rfl⟩;have hb:Below w.heap.size w W:=by rw[←hW];exact zC
 have kO:Blk W w.heap.size #[.slice oa o.length oc] 41:=by rw[←hW];exact ((Blk.new _ _ _).alloc _).alloc _
 have kG:Blk W (w.heap.size+1) #[.int .i64 g] 3:=by rw[←hW];have:=(Blk.new (w.alloc (.cells #[.slice oa o.length oc] 41)) #[.int .i64 g] 3).alloc (.cells #[.int .i64 0,.int .i64 0,.int .i64 0,.int .i64 0] 54);rwa [World.size_alloc] at this
 have h0:=a5d (.slice la l.length lc) l W (hl.up hb) hlf (fun a=>o.any (a6n g a)) 85 #[.pointer (some ⟨w.heap.size,0,none⟩),.pointer (some ⟨w.heap.size+1,0,none⟩)] (enters_of func85 (by kernel_rfl) rfl)
  (fun X x hx=>(c1s x g w.heap.size (w.heap.size+1) (.slice oa o.length oc) o 0 X ((kO.below hx kO.lt).cell 0) ((ho.up hb).up hx) hof ((kG.below hx kG.lt).cell 0)).mono fun _ _ ⟨he,h⟩=>⟨he,hx.trans (h.mono hx.size)⟩)
 have hlW:=hl.up hb;unfold c0i;rcases c0j (fun a=>o.any (a6n g a)) l with ⟨h1,h2⟩|⟨k,hk,h1,h2⟩
 ·rw[h1] at h0
  rw[h2];replace h0:Calls _ _ _ _ fun e w'=>e= .returned (.int .i64 (-1))∧Below W.heap.size W w':=h0
  rw[←hW] at h0;clear h1 h2 hW hb kO kG hlW;go_enter func36,ntmps36;go_wp2_with (go_at_call 45;refine (h0).mono ?_;rintro e w'⟨rfl,hb_⟩;obtain⟨p,rfl⟩:=a0e hb_;clear hb_);have k2:Blk ((((w.alloc (.cells #[.slice oa o.length oc] 41)).alloc (.cells #[.int .i64 g] 3)).alloc (.cells #[.int .i64 0,.int .i64 0,.int .i64 0,.int .i64 0] 54)).growBy p) (w.heap.size+1+1) #[.int .i64 0,.int .i64 0,.int .i64 0,.int .i64 0] 54:=by have:=(Blk.new ((w.alloc (.cells #[.slice oa o.length oc] 41)).alloc (.cells #[.int .i64 g] 3)) #[.int .i64 0,.int .i64 0,.int .i64 0,.int .i64 0] 54).grow p;simp only[World.size_alloc] at this;exact this
  exact bodyPost_ret (a1o (by rfl) _ _ _ 54 _ (0,0) _ (by rfl) k2 underlying54 (by rfl) (by kernel_rfl)) rfl ⟨rfl,zC⟩
 ·rw[h1] at h0
  rw[h2];replace h0:Calls _ _ _ _ fun e w'=>e= .returned (.int .i64 (k:Nat))∧Below W.heap.size W w':=h0
  obtain⟨b,off,cap,hv,-,hlb,hc⟩:=hlW.some_ (by omega);simp only[Value.slice.injEq,true_and] at hv;obtain⟨rfl,rfl⟩:=hv;obtain⟨d,hd⟩:∃d,l[k]=d:=⟨_,rfl⟩;have hck:=hc k hk;rw[hd] at hck;rw[hd];obtain⟨dx,dy,dk,di⟩:=d;have c0:W.cell? ⟨b,off+k*4,none⟩=some (.int .i64 dx):=hck 0 (show 0<4 by decide);have c1:W.cell? ⟨b,off+k*4+1,none⟩=some (.int .i64 dy):=hck 1 (show 1<4 by decide);have c2:W.cell? ⟨b,off+k*4+2,none⟩=some (.int .i64 dk):=hck 2 (show 2<4 by decide);have c3:W.cell? ⟨b,off+k*4+3,none⟩=some (.int .i64 di):=hck 3 (show 3<4 by decide);have hkI:(k:Int)<(l.length:Int):=by omega
  have hk0:¬(k:Int)<0:=by omega
  have k2:Blk W (w.heap.size+1+1) #[.int .i64 0,.int .i64 0,.int .i64 0,.int .i64 0] 54:=by rw[←hW];have:=Blk.new ((w.alloc (.cells #[.slice oa o.length oc] 41)).alloc (.cells #[.int .i64 g] 3)) #[.int .i64 0,.int .i64 0,.int .i64 0,.int .i64 0] 54;simp only[World.size_alloc] at this;exact this
  have x0:=k2.cell 0;have x1:=k2.cell 1;have x2:=k2.cell 2;have x3:=k2.cell 3;have z0:=k2.frozen 0;have z1:=k2.frozen 1;have z2:=k2.frozen 2;have z3:=k2.frozen 3;replace x0:W.cell? ⟨w.heap.size+1+1,0,none⟩=some (.int .i64 0):=x0;replace x1:W.cell? ⟨w.heap.size+1+1,1,none⟩=some (.int .i64 0):=x1;replace x2:W.cell? ⟨w.heap.size+1+1,2,none⟩=some (.int .i64 0):=x2;replace x3:W.cell? ⟨w.heap.size+1+1,3,none⟩=some (.int .i64 0):=x3;have kF:=(((k2.set 0 (.int .i64 dx)).set 1 (.int .i64 dy)).set 2 (.int .i64 dk)).set 3 (.int .i64 di);clear h1 h2 kO kG hlW hck hc hl ho hd;go_enter func36,ntmps36;go_upto_region 1 with fail;clear hW;go_wp2_with (go_at_call 45;refine (h0).mono ?_;rintro e w'⟨rfl,hb_⟩;obtain⟨p,rfl⟩:=a0e hb_;clear hb_);have hsz:=hb.size;exact bodyPost_ret (a1o (by rfl) _ _ _ 54 _ (0,0) _ (by rfl) (kF.grow p) underlying54 (by rfl) (by kernel_rfl)) rfl ⟨rfl,zC⟩
end
end Go.Proofs.YtfocdbjceedagaaGreatDoor
