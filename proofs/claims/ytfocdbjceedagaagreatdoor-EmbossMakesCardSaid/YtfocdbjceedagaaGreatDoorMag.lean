/-
  Parts.
-/
import Derived.Test.YtfocdbjceedagaaGreatDoorMaf
set_option linter.unusedVariables false
set_option linter.unusedSimpArgs false
set_option maxHeartbeats 8000000
set_option maxRecDepth 100000
namespace Go.Proofs.YtfocdbjceedagaaGreatDoor
open Tryz
section
open Go.RowKit Go.Shelf
attribute [local go_sem] Oper.semAt_some
variable{s:ByteArray}{k:Int}{B b kb sb:Nat}{w w0:World}
def d5v (s:ByteArray):Prop:=∀i (h:i<s.size),48<=(s[i]).toNat/\(s[i]).toNat<=57
def b1b (b:Nat)(s:ByteArray)(w:World):Nat:=match w.heap[b]? with|some (.stringIter _ p)=>s.size-p|_=>0
theorem a5k (w:World)(s:ByteArray)(n:Nat):b1b w.heap.size s (w.iter s n)=s.size-n:=by
 unfold b1b;rw[World.iter_heap]
theorem c5k (s:ByteArray)(hd:d5v s)(hl:s.size<=1000000)(w:World):Calls prog 113 #[.string s] w λe w'=>e= .returned (.bool true)/\Below w.heap.size w w':=by
 go_enter func113,ntmps113;go_wp2_with fail;go_loopw [7] (λ_ W=>∃n:Nat,n<=s.size/\W=w.iter s n) (λ_ W=>b1b w.heap.size s W)
 case atStart=>exact⟨0,Nat.zero_le _,rfl⟩
 case round =>
  obtain⟨n,hn,rfl⟩:=hrel;by_cases hlt:n<s.size
  ·obtain⟨h0,h1⟩:=hd n hlt
   have hr:∀ty,(Instr.next (.pointer (some ⟨w.heap.size,0,none⟩)) true ty).run prog (w.iter s n)= .ok (.tuple #[.bool true,.int .i64 n,.int .i32 (s[n]'hlt).toNat]) (w.iter s (n+1)):=λty=>run_next_ascii w s n ty hlt oM
   obtain⟨c,hc⟩:=zE ((s[n]'hlt).toNat);rw[hc]at h0 h1 hr;clear hc hd;have k0:¬(c:Int)<32:=oM;have k1:¬(126:Int)<c:=oM;have k2:¬(c:Int)=34:=oM;go_wp2_with fail;go_roundw
   case rel=>exact⟨n+1,oM,rfl⟩
   case measure=>rw[a5k,a5k];omega
  ·obtain rfl:n=s.size:=oM
   have hr:∀ty,(Instr.next (.pointer (some ⟨w.heap.size,0,none⟩)) true ty).run prog (w.iter s s.size)= .ok (.tuple #[.bool false]) (w.iter s s.size):=λty=>run_next_end w s s.size ty oM
   exact ydh
theorem d2d (l:List UInt8)(c:UInt8)(r:List UInt8)(h:l=c::r)(hc:c.toNat<=57):∀x∈wordsL,Lib.hasPrefix l x.data.toList=false:=by
 subst h;have h2:∀a:UInt8,97<=a.toNat->(a==c)=false:=λa ha=>by
  rw[beq_eq_false_iff_ne];intro e;subst e;omega
 intro x hx;simp only[wordsL,List.mem_cons,List.not_mem_nil,or_false]at hx;rcases hx with rfl|rfl|rfl|rfl|rfl|rfl|rfl|rfl|rfl|rfl|rfl <;>
 ·unfold Lib.hasPrefix
  simp only[List.isPrefixOf_cons_cons];rw[h2 _ jM];rfl
theorem c1k (x s:ByteArray)(k:Nat)(sb kb:Nat)(w:World)(hk0:k<s.size)(hl:s.size<=1000000)(hs:w.cell? ⟨sb,0,none⟩=some (.string s))(hk:w.cell? ⟨kb,0,none⟩=some (.int .i64 k)):
 Calls prog 116 #[.string x,.pointer (some ⟨sb,0,none⟩),.pointer (some ⟨kb,0,none⟩)] w λe w'=>e= .returned (.bool (Lib.hasPrefix ((s.data.toList.drop k).take (s.size-k)) x.data.toList))/\w'=w:=by
 go_enter func116,ntmps116;go_wp2_with (go_at_call 117;refine(Tryz.strings_HasPrefix _ _ _).mono ?_;rintro e w'⟨rfl,rfl⟩);go_ret;exact⟨rfl,rfl⟩
theorem c8l (s:ByteArray)(k:Nat)(h:k<s.size):∃r,(s.data.toList.drop k).take (s.size-k)=s[k]::r:=by
 have h2:k<s.data.toList.length:=by simpa using h
 rw[List.drop_eq_getElem_cons h2,show s.size-k=(s.size-k-1)+1 from by omega,List.take_succ_cons];exact⟨_,rfl⟩
theorem c5l (s:ByteArray)(k sb kb:Nat)(w:World)(hd:d5v s)(hk0:k<s.size)(hl:s.size<=1000000)(hs:w.cell? ⟨sb,0,none⟩=some (.string s))(hk:w.cell? ⟨kb,0,none⟩=some (.int .i64 k)):
 Calls prog 114 #[.slice (some ⟨w.heap.size,0,none⟩) 11 11,.func (.func 116) #[] #[.pointer (some ⟨sb,0,none⟩),.pointer (some ⟨kb,0,none⟩)]] (w.alloc (.cells a2m 9)) λe w'=>e= .returned (.int .i64 (-1))/\∃q,w'=(w.alloc (.cells a2m 9)).drewN q:=by
 have hc:∀j,j<wordsL.length->(w.alloc (.cells a2m 9)).cell? ⟨w.heap.size,0+j,none⟩=some (Value.string wordsL[j]!):=by
  exact yea
 have hp:PredAt prog 116 #[.pointer (some ⟨sb,0,none⟩),.pointer (some ⟨kb,0,none⟩)] Value.string (λx=>Lib.hasPrefix ((s.data.toList.drop k).take (s.size-k)) x.data.toList) (w.alloc (.cells a2m 9)):=by
  exact ycn
 refine(Tryz.slices_IndexFunc_f114 Value.string (λx=>Lib.hasPrefix ((s.data.toList.drop k).take (s.size-k)) x.data.toList) 116 _ (enters_of func116 zM rfl) w.heap.size 0 11 11 wordsL _ hp jM jM hc).mono ?_;rintro e w'⟨rfl,h⟩;refine⟨?_,h⟩;obtain⟨r,hr⟩:=c8l s k hk0;have h2:Lib.idxBy (λ_ y=>Lib.hasPrefix ((s.data.toList.drop k).take (s.size-k)) y.data.toList) (wordsL.take 11) default = -1:=c4h _ 0 (λx hx=>d2d _ _ _ hr (hd k hk0).2 x (List.mem_of_mem_take hx));rw[h2]
theorem b8e (c:Int)(h0:48<=c)(h1:c<=57)(w:World):Calls prog 120 #[.string ⟨#[32,44,39,45,46]⟩,.int .u8 c] w λe w'=>e= .returned (.int .i64 (-1))/\w'=w:=by
 refine(Tryz.strings_IndexByte _ _ _).mono ?_;rintro e w'⟨rfl,rfl⟩;have:∀n:Nat,n<10->Lib.indexByte (⟨#[32,44,39,45,46]⟩:ByteArray).data.toList ((48+(n:Int)).toNat.toUInt8) = -1:=by decide +kernel
 have h2:=this (c-48).toNat oM;rw[show 48+(((c-48).toNat:Nat):Int)=c from by omega]at h2;exact⟨by rw[h2],rfl⟩
def a8g (c:Nat):Nat:=match c with|48=>26|49=>1|50=>3|51=>9|52=>25|53=>17|54=>11|55=>27|56=>19|_=>10
def lettersB :ByteArray:=⟨#[1,3,9,25,17,11,27,19,10,26,5,7,13,29,21,15,31,23,14,30,37,39,58,45,61,53]⟩
def a7z (s:ByteArray):Nat->List UInt8
 |0=>[]
 |n+1=>(if n=0 then [60]else a7z s n)++[(a8g (s[n]!).toNat).toUInt8]
theorem b1c (s:ByteArray):∀n,(a7z s n).length<=n+1
 |0=>Nat.zero_le _
 |n+1=>by
  unfold a7z;have:=b1c s n;exact yjs
theorem a1m {x:Int}(h0 : -9223372036854775808<=x)(h1:x<=9223372036854775807):IntKind.i64.wrap x=x:=by
 exact ydf
theorem c5m (c:Nat)(h0:48<=c)(h1:c<=57)(hh:(((c:Int)-48+9) % 10).toNat<lettersB.size):((lettersB[(((c:Int)-48+9) % 10).toNat]'hh).toNat:Int)=(a8g c:Nat):=by
 rcases(show c=48\/c=49\/c=50\/c=51\/c=52\/c=53\/c=54\/c=55\/c=56\/c=57 from oM)with rfl|rfl|rfl|rfl|rfl|rfl|rfl|rfl|rfl|rfl <;> rfl
theorem c8m (c:Nat):a8g c<256:=by
 unfold a8g;split <;> omega
theorem BW.byteN {l:List UInt8}(h:BW B sb b kb s k l w0 w)(c:Nat)(hc:c<256)(hl:l.length+1<=140737488355328):
 Calls prog 118 #[.pointer (some ⟨b,0,none⟩),.int .u8 c] w λe w'=>e= .returned .nilIface/\BW B sb b kb s k (l++[c.toUInt8]) w0 w' :=
 h.byte' c.toUInt8 c uM hl
def kOf (v:Value)(W:World):Nat:=match v with | .pointer (some a)=>(match W.cell? a with|some x=>(intOf x).toNat|none=>0)|_=>0
theorem BW.kOf {l:List UInt8}(h:BW B sb b kb s k l w0 w):kOf (.pointer (some ⟨kb,0,none⟩)) w=k.toNat:=by
 unfold Go.Proofs.YtfocdbjceedagaaGreatDoor.kOf;simp only[h.ck,intOf]
theorem c5n (s:ByteArray)(hd:d5v s)(hl:s.size<=1000)(w:World):Calls prog 64 #[.string s] w λe w'=>e= .returned (.tuple #[.string ⟨(a7z s s.size).toArray⟩,.int .i64 0])/\Below w.heap.size w w':=by
 go_enter func64,ntmps64;go_wp2_with (first
  |(go_at_call 113;refine(c5k s hd oM _).mono ?_;rintro e w'⟨rfl,hb_⟩;obtain⟨p,rfl⟩:=a0b hb_;clear hb_))
 have hB:=BW.start w s p;obtain⟨W,hW⟩:=zE (((((w.alloc (.cells #[.string s] 9)).growBy p).alloc (.cells #[.pointer none,.slice none 0 0] 178)).alloc (.cells #[.int .i64 0] 3)));obtain⟨b,hb⟩:=zE (w.heap.size+1+p.objs.size);rw[hW]at hB ⊢;rw[hb]at hB ⊢;obtain⟨kb,hkb⟩:=zE (b+1);obtain⟨sb,hsb⟩:=zE w.heap.size;rw[hkb]at hB ⊢;rw[hsb]at hB ⊢;replace hsb:=Lib.hid hsb;clear hkb hb hW;go_loopw [5] (λv wr=>∃(n kb:Nat),v= .pointer (some ⟨kb,0,none⟩)/\n<=s.size/\BW sb sb b kb s n (a7z s n) w wr) (λv wr=>s.size-kOf v wr)
 case atStart=>exact⟨0,kb,rfl,Nat.zero_le _,hB⟩
 case round =>
  clear hB;obtain⟨n,kb,rfl,hn,hB⟩:=hrel;have hcs:=hB.cs;have hck:=hB.ck;have hfk:=hB.fk;have hkn:=Lib.hid (hB.kOf);have hol:=b1c s n;by_cases hlt:n<s.size
  ·have hltI:(n:Int)<(s.size:Int):=oM
   obtain⟨d0,d1⟩:=hd n hlt;have hout:a7z s (n+1)=(if n=0 then [60]else a7z s n)++[(a8g (s[n]'hlt).toNat).toUInt8]:=by
    exact yis
   have hix:=c5l s n sb kb;obtain⟨c,hc⟩:=zE ((s[n]'hlt).toNat);rw[hc]at d0 d1 hout;have hlz:(lettersB.size:Int)=26:=rfl;have hla:=c5m c d0 d1;have hlb:=c8m c;by_cases hn0:n=0
   ·subst hn0
    simp only[if_true]at hout;replace hout:=Lib.hid hout;have h60:∀q,Calls prog 118 #[.pointer (some ⟨b,0,none⟩),.int .u8 60] ((wr.alloc (.cells a2m 9)).drewN q) λe w'=>e= .returned .nilIface/\BW sb sb b kb s 0 ([]++[60]) w w':=λq=>((hB.alloc _).drewN q).byte' 60 60 rfl oM
    clear hB;go_wp2_with (first
     |(refine a0j qM 9 _ _ qM s .i64 0 qM qM underlying9 c oM oM (by rw[<-hc];rfl) ?_)
     |(refine a0j qM 9 _ _ qM lettersB .u8 (((c:Int)-48+9) % 10) qM qM underlying9 (a8g c:Nat) oM oM (hla _) ?_)
     |(go_at_call 115;refine(a6d _).mono ?_;rintro e w'⟨rfl,rfl⟩)
     |(go_at_call 114;refine(hix _ hd hlt oM hcs hck).mono ?_;rintro e w'⟨rfl,q,rfl⟩)
     |(go_at_call 120;refine(b8e c oM oM _).mono ?_;rintro e w'⟨rfl,rfl⟩)
     |(go_at_call 119;refine(a4x c true uM _).mono ?_;rintro e w'⟨rfl,rfl⟩)
     |(go_at_call 118;with_reducible refine(h60 q).mono ?_;rintro e w1⟨rfl,hB1⟩;have cs1:=hB1.cs;have ck1:=hB1.ck;have fk1:=hB1.fk)
     |(go_at_call 118;with_reducible refine(hB1.byteN (a8g c) hlb vM).mono ?_;rintro e w2⟨rfl,hB2⟩;have cs2:=hB2.cs;have ck2:=hB2.ck;have fk2:=hB2.fk))
    refine⟨⟨1,w2.heap.size,rfl,oM,?_⟩,?_⟩
    ·rw[hout.out]
     exact hB2.newk 1
    ·rw[(hB2.newk 1).kOf,hkn.out]
     simp;omega
   ·have hn1:0<(n:Int):=oM
    have hn2:¬(n:Int)<=0:=oM;obtain⟨e0,e1⟩:=hd (n-1) oM;have hw0:IntKind.i64.wrap ((n:Int)-1)=(n:Int)-1:=a1m oM oM;have hw1:IntKind.i64.wrap ((n:Int)+1)=(n:Int)+1:=a1m oM oM;rw[if_neg hn0]at hout;replace hout:=Lib.hid hout;have hlt1:∀q,Calls prog 118 #[.pointer (some ⟨b,0,none⟩),.int .u8 (a8g c:Nat)] ((wr.alloc (.cells a2m 9)).drewN q) λe w'=>e= .returned .nilIface/\BW sb sb b kb s n (a7z s n++[(a8g c).toUInt8]) w w':=λq=>((hB.alloc _).drewN q).byteN (a8g c) hlb oM
    clear hB;go_wp2_with (first
     |(refine a0j qM 9 _ _ qM s .i64 (n:Nat) qM qM underlying9 c oM oM (by rw[<-hc];rfl) ?_)
     |(refine a0j qM 9 _ _ qM lettersB .u8 (((c:Int)-48+9) % 10) qM qM underlying9 (a8g c:Nat) oM oM (hla _) ?_)
     |(go_at_call 115;refine(a6d _).mono ?_;rintro e w'⟨rfl,rfl⟩)
     |(go_at_call 114;refine(hix _ hd hlt oM hcs hck).mono ?_;rintro e w'⟨rfl,q,rfl⟩)
     |(go_at_call 120;refine(b8e c oM oM _).mono ?_;rintro e w'⟨rfl,rfl⟩)
     |(go_at_call 119;with_reducible refine(a4x c true uM _).mono ?_;rintro e w'⟨rfl,rfl⟩)
     |(go_at_call 119;with_reducible refine(a4x _ true uM _).mono ?_;rintro e w'⟨rfl,rfl⟩)
     |(go_at_call 118;with_reducible refine(hlt1 q).mono ?_;rintro e w2⟨rfl,hB2⟩;have cs2:=hB2.cs;have ck2:=hB2.ck;have fk2:=hB2.fk))
    refine⟨⟨n+1,w2.heap.size,rfl,oM,?_⟩,?_⟩
    ·rw[hout.out]
     exact hB2.newk _
    ·rw[(hB2.newk _).kOf,hkn.out]
     simp;omega
  ·obtain rfl:n=s.size:=oM
   go_wp2_with (first
    |(go_at_call 121;refine(Tryz.Builder_String_any_k sb b (a7z s s.size) _ hB.bld hB.le).mono ?_;rintro e w3⟨rfl,hI3,hb3,ho3⟩))
   go_ret2;exact⟨rfl,by rw[hsb.out];exact hB.below.trans hb3⟩
end
section
open Go
structure Lf where
 p:Int
 k:Int
 i:Int
deriving DecidableEq
structure Ke where
 n:Int
 p:Int
 c:ByteArray
deriving DecidableEq
structure Pn where
 dots:List Dt
 keys:List Ke
 left:List Lf
def b5s (g:Int)(a b:Dt):Bool:=(decide (a.k≠b.k)||decide (a.i≠b.i))&&(decide (max (a.x-b.x) (b.x-a.x)<g)&&decide (max (a.y-b.y) (b.y-a.y)<g))
def a6f (g:Int)(l o:List Dt):Option Dt:=l.find? λa=>o.any (b5s g a)
section
variable (g:Int)(pf:Pc->Bool×List Dt)(kf:Pc->List Ke)
def d5e (dots:List Dt)(p:Pc):Option Lf :=
 if(pf p).1 then(a6f g dots (pf p).2).map λd=>⟨p.id,d.k,d.i⟩else some ⟨p.id,0,0⟩
def a2y (pl:Pn)(p:Pc):Pn :=
 match d5e g pf pl.dots p with
 |some x=>{ pl with left:=pl.left++[x] }
 |none=>{ pl with dots:=pl.dots++(pf p).2,keys:=pl.keys++kf p }
def b0s (wd:List Dt)(ps:List Pc):Pn:=ps.foldl (a2y g pf kf) ⟨wd,[],[]⟩
def why (pl:Pn)(id:Int):Option Nat:=pl.left.findIdx? λl=>decide (l.p=id)
structure CD where
 want:List Dt
 left:Nat
 last:List Int
def a8h (pl:Pn)(st:CD)(p:Pc):Option CD :=
 if p.id∈st.last then none
 else match why pl p.id with
  |some k=>if k=st.left then some ⟨st.want,st.left+1,p.id::st.last⟩else none
  |none=>if(pf p).1 then some ⟨st.want++(pf p).2,st.left,p.id::st.last⟩else none
def cdF (pl:Pn)(wd:List Dt)(ps:List Pc):Bool :=
 match ps.foldlM (a8h pf pl) ⟨wd,0,[]⟩with
 |none=>false
 |some st=>decide (st.left=pl.left.length)&&decide (st.want=pl.dots)
def d5w (a b:Dt):Bool:=(decide (a.k≠3)&&decide (b.k≠3))|| !b5s g a b
def d2e (l:List Dt):Bool:=(List.range l.length).all λk=>(l.take k).all λb=>match l[k]? with|some a=>d5w g a b|none=>true
def a6g (pl:Pn)(ps:List Pc):List Ke:=ps.flatMap λp=>if(why pl p.id).isNone then kf p else []
def c1l (pl:Pn)(bef:List Int)(p:Pc)(l:Lf):Bool :=
 if l.k=0/\l.i=0 then !(pf p).1
 else(pf p).1&&(decide (l.k=2)||(decide (l.k=3)&&decide (l.i≠p.id)&&decide (l.i∈p.id::bef)))&&(a6f g (pl.dots.filter λd=>decide (d.k=l.k)&&decide (d.i=l.i)) (pf p).2).isSome
def a4k (pl:Pn)(bef:List Int)(p:Pc):Option (List Int) :=
 match(why pl p.id).bind λk=>pl.left[k]? with
 |none=>some (p.id::bef)
 |some l=>if p.id∈bef then some (p.id::bef)else if c1l g pf pl bef p l then some (p.id::bef)else none
def a3n (pl:Pn)(ps:List Pc):Bool:=(ps.foldlM (a4k g pf pl) []).isSome
def b8f (pl:Pn)(wd:List Dt)(ps:List Pc):Int :=
 if cdF pf pl wd ps then if d2e g pl.dots then if a6g kf pl ps=pl.keys then if a3n g pf pl ps then 0 else 42 else 42 else 41 else 42
end
section
variable {g:Int}{pf:Pc->Bool×List Dt}{kf:Pc->List Ke}
theorem a6u (wd:List Dt)(qs:List Pc)(p:Pc):b0s g pf kf wd (qs++[p])=a2y g pf kf (b0s g pf kf wd qs) p:=by
 unfold b0s;rw[List.foldl_append];rfl
theorem b8g {pl:Pn}{p:Pc}{x:Lf}(h:d5e g pf pl.dots p=some x):a2y g pf kf pl p={ pl with left:=pl.left++[x] }:=by
 unfold a2y;rw[h]
theorem c1m {pl:Pn}{p:Pc}(h:d5e g pf pl.dots p=none):a2y g pf kf pl p={ pl with dots:=pl.dots++(pf p).2,keys:=pl.keys++kf p }:=by
 unfold a2y;rw[h]
theorem d7u {dots:List Dt}{p:Pc}{x:Lf}(h:d5e g pf dots p=some x):x.p=p.id:=by
 unfold d5e at h;split at h
 ·obtain⟨d,-,rfl⟩:=Option.map_eq_some_iff.1 h
  rfl
 ·cases h
  rfl
theorem b1d {α:Type}{Q:List α->Prop}(h0:Q [])(hs:∀l x,Q l->Q (l++[x]))(l:List α):Q l:=by
 have h:∀l:List α,Q l.reverse:=by
  intro l;induction l with
  |nil=>exact h0
  |cons x l ih=>rw[List.reverse_cons];exact hs _ x ih
 have:=h l.reverse;rwa [List.reverse_reverse]at this
theorem d2f (wd:List Dt)(qs:List Pc):∀rs:List Pc,∃D K L,b0s g pf kf wd (qs++rs)=⟨(b0s g pf kf wd qs).dots++D,(b0s g pf kf wd qs).keys++K,(b0s g pf kf wd qs).left++L⟩/\(∀x∈L,x.p∈rs.map Pc.id)/\(∀d∈D,∃p∈rs,d∈(pf p).2):=by
 refine b1d ⟨[],[],[],by simp,by simp,by simp⟩ λrs p ih=> ?_
 ·obtain⟨D,K,L,h,hL,hD⟩:=ih
  rw[<-List.append_assoc,a6u,h]
  cases ho:d5e g pf ((b0s g pf kf wd qs).dots++D) p with
  |some x =>
   rw[b8g ho];refine⟨D,K,L++[x],by simp,λy hy=> ?_,λd hd=> ?_⟩
   ·rcases List.mem_append.1 hy with hy|hy
    ·exact yjn
    ·rw[List.mem_singleton]at hy
     subst hy;rw[d7u ho];simp
   ·obtain⟨q,hq,h2⟩:=hD d hd
    exact⟨q,List.mem_append_left _ hq,h2⟩
  |none =>
   rw[c1m ho];refine⟨D++(pf p).2,K++kf p,L,by simp,λy hy=> ?_,λd hd=> ?_⟩
   ·exact yjn
   ·rcases List.mem_append.1 hd with hd|hd
    ·obtain⟨q,hq,h2⟩:=hD d hd
     exact⟨q,List.mem_append_left _ hq,h2⟩
    ·exact⟨p,by simp,hd⟩
theorem c8n (wd:List Dt)(qs:List Pc):∀d∈(b0s g pf kf wd qs).dots,d∈wd\/∃p∈qs,d∈(pf p).2:=by
 obtain⟨D,K,L,h,-,hD⟩:=d2f (g:=g) (pf:=pf) (kf:=kf) wd [] qs;rw[List.nil_append]at h;rw[h];intro d hd;rcases List.mem_append.1 hd with h1|h1
 ·exact .inl (by simpa[b0s]using h1)
 ·exact .inr (hD d h1)
end
end
section
open Go.RowKit Go.Shelf Go.Lib Go.Sort
attribute [local go_sem] Oper.semAt_some
attribute [local go_sem ↓] Go.wp_at_zero Go.wp_at_succ
variable{l:List Pc}{base cap g n:Nat}{W w:World}
theorem b8h {b b':Nat}{e:TypeId}{s:Nat}{v:Value}{xs:List Value}(h:W.ownsRow b e s v n xs)(hb:b'<=b):W.ownsRow b' e s v n xs:=by
 refine⟨h.1,h.2.imp id ?_⟩;rintro⟨g,cap,cur,h1,h2,h3⟩;exact⟨g,cap,cur,h1,oM,h3⟩
theorem a1n {w':World}{o:Option Nat}(hg:w.grownBy w' o)(hn:n<=w.heap.size)(h:∀k,o=some k->n<=k):Below n w w' :=
 ⟨hg.os,hg.tape,hg.output,hg.size,λk hk=>hg.block k (Nat.lt_of_lt_of_le hk hn) (λe=>by have:=h k e.symm;omega)⟩
theorem c1n (blk off cap N n:Nat)(d:Array Pc)(w:World)(hW:SoW w blk off N n d w)(hn:n<=1000):
 Calls prog 170 #[.slice (some ⟨blk,off,none⟩) n cap,.int .i64 0,.int .i64 (n:Nat),.func (.func 103) #[] #[]] w λe w'=>e= .returned (.tuple #[])/\SoW w blk off N n (insertionSort (ltOf a1j) d 0 n) w':=by
 have mixed:prog.follows .mixedOrders=true:=by kernel_rfl
 have HW:Hid (SoW w blk off N n d w):=hW;clear hW;go_enter func170,ntmps170;go_wp2_with fail;go_loopw [8] (λvi wr=>∃(i:Nat) (dk:Array Pc),vi= .int .i64 (i:Nat)/\1<=i/\i<=n+1/\Hid (SoW w blk off N n dk wr)/\Hid (insOuter (ltOf a1j) 0 n i dk=insOuter (ltOf a1j) 0 n 1 d)) (λvi _=>n+1-(intOf vi).toNat)
 case atStart=>exact⟨1,d,rfl,oM,oM,HW,rfl⟩
 case round =>
  obtain⟨i,dk,rfl,hi1,hin,HR,HO⟩:=hrel;by_cases hlt:i<n
  ·have hltI:(i:Int)<(n:Int):=oM
   go_wp2_with fail;go_loopw [9] (λvj wr2=>∃(j:Nat) (dj:Array Pc),vj= .int .i64 (j:Nat)/\j<=i/\Hid (SoW w blk off N n dj wr2)/\Hid (insInner (ltOf a1j) 0 j dj=insInner (ltOf a1j) 0 i dk)) (λvj _=>(intOf vj).toNat)
   case atStart=>exact⟨i,dk,rfl,oM,HR,rfl⟩
   case round =>
    obtain⟨j,dj,rfl,hji,HJ,HI⟩:=hrel;have out:Hid ((j=0\/ltOf a1j dj[j]! dj[j-1]! =false)->insOuter (ltOf a1j) 0 n (i+1) dj=insOuter (ltOf a1j) 0 n 1 d):=λhs=>by
     rw[<-HO.out,insOuter_go _ _ _ _ _ hlt,<-HI.out,insInner_stop _ _ _ _ (hs.imp (λe=>by omega) id)]
    by_cases hj0:0<j
    ·have hj0I:(0:Int)<(j:Int):=oM
     obtain⟨jp,rfl⟩:∃jp,j=jp+1:=⟨j-1,oM⟩;have hjn:jp+1<dj.size:=by rw[HJ.out.sz];omega
     obtain⟨xj,hxj⟩:=zE (dj[jp+1]!);obtain⟨xp,hxp⟩:=zE (dj[jp]!);obtain⟨a0,a1,a2,a3,a4,a5,a6⟩:=hxj▸HJ.out.row.pc hjn;obtain⟨b0,b1,b2,b3,b4,b5,b6⟩:=hxp▸HJ.out.row.pc (j:=jp) oM;have HX:Hid (dj[jp+1]! =xj/\dj[jp]! =xp):=⟨hxj,hxp⟩;obtain⟨cv,hcv⟩:=zE (a1j xj xp);have hcmp:∀W,Calls prog 103 #[plV xj,plV xp] W λe w'=>e= .returned (.int .i64 cv)/\Below W.heap.size W w':=λW=>by rw[<-hcv];exact a5z xj xp W
     have HC:Hid (a1j xj xp=cv):=hcv;clear hxj hxp hcv;obtain⟨i1,x1,y1,cl1,n1,wt1,d1⟩:=xj;obtain⟨i2,x2,y2,cl2,n2,wt2,d2⟩:=xp;have hwp:IntKind.i64.wrap (jp:Int)=(jp:Int):=by rw[IntKind.wrap_i64];omega
     have hjnI:(jp:Int)+1<(n:Int):=oM;have hjnI2:(jp:Int)<(n:Int):=oM;have hp0:(0:Int)<=(jp:Int)+1:=oM;have he0:((jp:Int)+1).toNat=jp+1:=oM;by_cases hlv:cv<0
     ·go_wp2_with fail
      first|with_reducible refine a0e zM zM ?_|with_reducible refine a0g zM zM ?_
      repeat(first|go_big_quiet_step ((go_at_call 103;exact Calls.grow_of (hcmp _)))|quiet_step ((go_at_call 103;exact Calls.grow_of (hcmp _))))
      refine wpQuiet_nil ?_;intro _ hw_;obtain⟨p,hw_⟩:=hw_;subst hw_;go_upto_region 6 with fail;obtain⟨W2,hW2⟩:=zE (wr.growBy p);rw[hW2];have HJ2:SoW w blk off N n dj W2:=by rw[<-hW2];exact HJ.out.below (below_growBy _ _)
      clear a0 a1 a2 a3 a4 a5 a6 b0 b1 b2 b3 b4 b5 b6 hW2 hcmp;obtain⟨a0,a1,a2,a3,a4,a5,a6⟩:=HX.out.1▸HJ2.row.pc hjn;obtain⟨b0,b1,b2,b3,b4,b5,b6⟩:=HX.out.2▸HJ2.row.pc (j:=jp) oM;obtain⟨f0,f1,f2,f3,f4,f5,f6⟩:=HJ2.row.pf hjn;obtain⟨g0,g1,g2,g3,g4,g5,g6⟩:=HJ2.row.pf (j:=jp) oM;have HJ3:=Lib.hid (HJ2.swap (j:=jp) oM);have hjj:jp+1<n:=oM;replace HJ2:=Lib.hid HJ2;simp only at a0 a1 a2 a3 a4 a5 a6 b0 b1 b2 b3 b4 b5 b6;go_big_region_o
      all_goals go_wp2_with fail
      go_roundw
      case rel =>
       refine⟨jp,swp dj (jp+1) jp,by go_num,oM,?_,?_⟩
       ·exact yhe
       ·show _=_
        have h4:=insInner_go (ltOf a1j) 0 (jp+1) dj oM (by rw[HX.out.1,show jp+1-1=jp from rfl,HX.out.2,d1o,HC.out];exact hlv);rw[<-HI.out,h4];rfl
      case measure=>first|(simp[intOf];done)|(simp[intOf];omega)
     ·exact ybf
    ·obtain rfl:j=0:=oM
     have hj0I:¬(0:Int)<((0:Nat):Int):=oM;have hSo:=out.out (.inl rfl);go_wp2_with fail;go_big_region_o
     all_goals go_wp2_with fail
     exact ygq
  ·have hgeI:¬(i:Int)<(n:Int):=oM
   exact ygb
def a0t (l:List Pc):List Pc:=(insertionSort (ltOf a1j) l.toArray 0 l.length).toList
theorem c8o:a0t []=[]:=by
 unfold a0t insertionSort;rw[insOuter_stop _ _ _ _ _ vM]
theorem c4i (d:Array Pc)(t:Nat)(ht:t<d.size*7):(d.toList.flatMap plE.enc)[t]? =some (flatK plE.enc 7 d)[t]! :=by
 have hq:t / 7<d.toList.length:=by simp;omega
 have hr:t % 7<7:=Nat.mod_lt _ jM;have e1:t / 7*7+t % 7=t:=oM;have h2:=a9b a4f d.toList (t / 7) (t % 7) hq hr;rw[show plE.s=7 from rfl,e1]at h2;rw[h2,get_flatK _ _ _ _ ht];have hqa:t / 7<d.size:=oM;rw[getElem!_pos d (t / 7) hqa];have hl:t % 7<(plE.enc d[t / 7]).length:=hr;rw[getElem!_pos (plE.enc d[t / 7]) (t % 7) hl];simp only[Array.getElem_toList];exact List.getElem?_eq_getElem hl
theorem b4h (h:w.ownsRow base 66 7 (.slice (some ⟨g,0,none⟩) l.length cap) l.length (l.flatMap plE.enc)):SoW w g 0 (cap*7) l.length l.toArray w/\base<=g:=by
 rcases h.2 with⟨e,-⟩|⟨g',cap',cur,e,hb,hg,h1,h2,h3,h4⟩
 ·cases e
 ·simp only[Value.slice.injEq,Option.some.injEq,Addr.mk.injEq,and_true,true_and]at e
  obtain⟨rfl,rfl⟩:=e;refine⟨⟨λt ht=>⟨?_,(show Blk w g cur 66 from hg).frozen _⟩,⟨cur,hg,h3⟩,⟨rfl,rfl,rfl,yR _,λ_ _ _=>rfl⟩,by simp⟩,hb⟩;have ht':t<l.length*7:=by simpa using ht
  have h5:=c4i l.toArray t (by simpa using ht');simp only at h5;have h6:=h.cellAt t ht';rw[h5]at h6;simpa using h6
theorem b4i {d:Array Pc}(h:SoW w g 0 (cap*7) n d W)(hb:base<=g)(hc:n<=cap)(hm:cap<=maxLen):W.ownsRow base 66 7 (.slice (some ⟨g,0,none⟩) n cap) n (d.toList.flatMap plE.enc):=by
 obtain⟨hr,⟨cur,hk,hs⟩,-,hz⟩:=h;have hlen:(d.toList.flatMap plE.enc).length=n*7:=by rw[a0v a4f];simp[hz]
 refine⟨hlen,.inr ⟨g,cap,cur,rfl,hb,hk,hc,hm,hs,?_⟩⟩;refine List.ext_getElem? λt=> ?_
 by_cases ht:t<n*7
 ·rw[List.getElem?_take_of_lt ht,c4i d t (by rw[hz];exact ht)]
  exact yit
 ·exact yiz
theorem c1o (a:Option Addr)(n c:Nat)(fv:Value)(w:World):Calls prog 170 #[.slice a n c,.int .i64 0,.int .i64 0,fv] w λe w'=>e= .returned (.tuple #[])/\w=w':=by
 go_enter func170,ntmps170;go_wp2_with fail;refine wp_loop_rounds 1 ?_;rw[rounds_succ];go_wp2_with fail;go_end0;exact⟨rfl,rfl⟩
theorem b4j (v fv:Value)(n:Nat)(hn:n<=19)(w:World)(K:World->Prop)(h:Calls prog 170 #[v,.int .i64 0,.int .i64 (n:Nat),fv] w λe w'=>e= .returned (.tuple #[])/\K w'):
 Calls prog 150 #[v,.int .i64 (n:Nat),fv] w λe w'=>e= .returned (.tuple #[])/\K w':=by
 have hnI:¬(20:Int)<=(n:Int):=oM;have hnI2:¬(20:Int)<(n:Int):=oM;have mixed:prog.follows .mixedOrders=true:=by kernel_rfl
 go_enter func150,ntmps150;go_wp2_with fail;refine wp_loop_rounds 1 ?_;rw[rounds_succ];go_wp2_with (go_at_call 170;refine h.mono ?_;rintro e w1⟨rfl,hK⟩);refine wp_loop_rounds 1 ?_;rw[rounds_succ];go_wp2_with fail;go_end0;exact⟨rfl,hK⟩
theorem d5x {fv:Value}(hl:l.length<=19)(hrow:w.ownsRow base 66 7 (.slice (some ⟨g,0,none⟩) l.length cap) l.length (l.flatMap plE.enc))(hc:l.length<=cap)(hm:cap<=maxLen)
 (hins:SoW w g 0 (cap*7) l.length l.toArray w->Calls prog 170 #[.slice (some ⟨g,0,none⟩) l.length cap,.int .i64 0,.int .i64 (l.length:Nat),fv] w λe w'=>e= .returned (.tuple #[])/\SoW w g 0 (cap*7) l.length (insertionSort (ltOf a1j) l.toArray 0 l.length) w') :
 Calls prog 150 #[.slice (some ⟨g,0,none⟩) l.length cap,.int .i64 (l.length:Nat),fv] w λe w'=>e= .returned (.tuple #[])/\w'.ownsRow base 66 7 (.slice (some ⟨g,0,none⟩) l.length cap) l.length ((a0t l).flatMap plE.enc)/\w.grownBy w' (some g):=by
 obtain⟨hS,hb⟩:=b4h hrow;refine b4j _ fv l.length hl w _ ((hins hS).mono ?_);rintro e w'⟨rfl,h⟩;exact⟨rfl,b4i h hb hc hm,h.gr⟩
theorem b8i (base:Nat)(v:Value)(l:List Pc)(w:World)(hl:l.length<=19)(hrow:w.ownsRow base 66 7 v l.length (l.flatMap plE.enc)):
 Calls prog 102 #[v,.func (.func 103) #[] #[]] w λe w'=>e= .returned (.tuple #[])/\w'.ownsRow base 66 7 v l.length ((a0t l).flatMap plE.enc)/\w.grownBy w' v.ownBlock:=by
 rcases hrow.2 with⟨rfl,h0⟩|⟨g,cap,cur,rfl,hb,hg,h1,h2,h3,h4⟩
 ·obtain rfl:=List.eq_nil_of_length_eq_zero h0
  have c1:=b4j (.slice none 0 0) (.func (.func 103) #[] #[]) 0 oM w (λw'=>w=w') (c1o none 0 0 _ w);have hr2:=Lib.hid hrow;clear hrow h0;go_enter func102,ntmps102;go_wp2_with (go_at_call 150;refine c1.mono ?_;rintro e w1⟨rfl,rfl⟩);go_end0;exact⟨rfl,by rw[c8o];exact hr2.out,⟨rfl,rfl,rfl,yR _,λ_ _ _=>rfl⟩⟩
 ·have c1:=d5x hl hrow h1 h2 (λhS=>c1n g 0 cap (cap*7) l.length l.toArray w hS oM)
  clear hrow hg h3 h4;go_enter func102,ntmps102;go_wp2_with (go_at_call 150;refine c1.mono ?_;rintro e w1⟨rfl,hr2,hg2⟩);go_end0;exact⟨rfl,hr2,hg2⟩
end
section
open Go Go.RowKit Go.Shelf
section
variable {α:Type}{E:El α}{P:Program}{st:TypeId}
theorem El.append_join (hE:E.Ok)(hI:E.In P st)(W:World)(base:Nat)(v xv:Value)(l l2:List α)(ty:TypeId)(hv:W.ownsRow base E.t E.s v l.length (l.flatMap E.enc))(hsm:∃g c,v= .slice (some ⟨g,0,none⟩) l.length c){n0:Nat}(hx:Lst E n0 W xv l2)(hf:Frm xv l2.length)(hl:l.length+l2.length<=100000)(hb:base<=W.heap.size) :
 ∃v' W',(Builtin.append_ #[st,st] ty #[v,xv]).run P W= .ok v' W'/\W'.ownsRow base E.t E.s v' (l++l2).length ((l++l2).flatMap E.enc)/\W.grownBy W' v.ownBlock/\Below base W W'/\∃g cap,v'= .slice (some ⟨g,0,none⟩) (l++l2).length cap:=by
 obtain⟨i0,z,hi0,hz0,hz1,hz2,hz3⟩:=hI.info;obtain⟨g,c,rfl⟩:=hsm;by_cases hne:l2=[]
 ·subst hne
  have hs:Src P i0.size st xv 0 [] W:=by
   exact yei
  have hlc:l.length+0<=c:=by
   exact yej
  have hr:=run_append_room_src (P:=P) W st st ty E.t i0 hI.under hi0 g 0 l.length c xv 0 [] hs hlc vM vM;refine⟨_,_,hr,?_,?_,?_,g,c,?_⟩
  ·rw[List.append_nil];exact hv
  ·exact⟨rfl,rfl,rfl,yR _,λ_ _ _=>rfl⟩
  ·exact⟨rfl,rfl,rfl,yR _,λ_ _=>rfl⟩
  ·rw[List.append_nil];rfl
 ·have hpos:0<l2.length:=List.length_pos_iff.2 hne
  obtain⟨b,off,cap,rfl,hcap,hbn,-⟩:=hx.some_ hpos;have hnews:∀j u,(l2.flatMap E.enc)[j]? =some u->W.cell? ((⟨b,off,none⟩:Addr).add j)=some u:=λj u hj=>by
   exact yih
  obtain⟨v',W',hr,hown,hg,-,-⟩:=run_append_own_at (P:=P) W base st ty E.t i0 _ E.s i0.bytes hI.under hi0 hz0 hz1 rfl hz3 hE.pos _ l.length _ hv ⟨b,off,none⟩ l2.length cap (l2.flatMap E.enc) (a0v hE l2) hnews (a4g hE l2) oK (Nat.le_trans (Nat.mul_le_mul (show l.length+l2.length<=100000 by omega) hz2) jM) hb;have hform:∃g cap,v'= .slice (some ⟨g,0,none⟩) (l++l2).length cap:=by
   exact yif
  refine⟨v',W',hr,?_,hg,a1n hg hb (λk e=>(hv.lt k e).1),hform⟩;exact yir
theorem El.step_join (hE:E.Ok)(hI:E.In P st){o:Oper}{a:Act}{w:World}{K:Act->World->Prop}{Q:Exit->Act->World->Prop}(s x:Operand)
 (ho:o.op= .call { callee:= .builtin .append,args:= #[s,x],argTypes:= #[st,st] })
 (base:Nat) {v:Value} (hs:a.eval s=v) (l:List α) (hv:w.ownsRow base E.t E.s v l.length (l.flatMap E.enc)) (hsm:∃g c,v= .slice (some ⟨g,0,none⟩) l.length c) {xv:Value} (l2:List α) (hxv:a.eval x=xv) {n0:Nat} (hx:Lst E n0 w xv l2) (hf:Frm xv l2.length) (hl:l.length+l2.length<=100000) (hb:base<=w.heap.size)
 (h:∀v' w',w'.ownsRow base E.t E.s v' (l++l2).length ((l++l2).flatMap E.enc)->w.grownBy w' v.ownBlock->Below base w w'->(∃g cap,v'= .slice (some ⟨g,0,none⟩) (l++l2).length cap)->K (a.put o.dst v') w') :
 Oper.wp P o a w K Q:=by
 obtain⟨v',w',hr,h2,h3,h4,h5⟩:=El.append_join hE hI w base v xv l l2 o.type hv hsm hx hf hl hb;unfold Oper.wp execOp;simp only[ho,resolve,invoke,builtin,Sem.run_bind,Sem.run_pure,Result.andThen_ok,List.map_toArray,List.map_cons,List.map_nil,hs,hxv,hr];exact h v' w' h2 h3 h4 h5
theorem El.join (hE:E.Ok)(hI:E.In P st){ops:Array Oper}{rest:List Oper}{o:Oper}{a:Act}{w:World}{Q:Exit->Act->World->Prop}(hgd:o.guard=none)(s x:Operand)
 (ho:o.op= .call { callee:= .builtin .append,args:= #[s,x],argTypes:= #[st,st] })
 (base:Nat) {v:Value} (hs:a.eval s=v) (l:List α) (hv:w.ownsRow base E.t E.s v l.length (l.flatMap E.enc)) (hsm:∃g c,v= .slice (some ⟨g,0,none⟩) l.length c) {xv:Value} (l2:List α) (hxv:a.eval x=xv) {n0:Nat} (hx:Lst E n0 w xv l2) (hf:Frm xv l2.length) (hl:l.length+l2.length<=100000) (hb:base<=w.heap.size)
 (h:∀v' w',w'.ownsRow base E.t E.s v' (l++l2).length ((l++l2).flatMap E.enc)->w.grownBy w' v.ownBlock->Below base w w'->(∃g cap,v'= .slice (some ⟨g,0,none⟩) (l++l2).length cap)->wpList P ops Q rest (a.put o.dst v') w') :
 wpList P ops Q (o::rest) a w :=
 wpList_plain hgd λ_ hK=>El.step_join hE hI s x ho base hs l hv hsm l2 hxv hx hf hl hb λv' w' h1 h2 h3 h4=>hK _ _ (h v' w' h1 h2 h3 h4)
end
end
section
open Go.RowKit Go.Shelf Go.Maps
attribute [local go_sem] Oper.semAt_some
theorem Dts.up {n:Nat}{A B:World}{sv:Value}{l:List Dt}(h:Dts n A sv l)(hb:Below n A B)(hn:n<=B.heap.size):Dts B.heap.size B sv l:=(h.below hb).mono hn
end
section
open Go.RowKit Go.Shelf
attribute [local go_sem] Oper.semAt_some
abbrev d9d (l:List UInt8):List Value:=l.map λb=> .int .u8 (b.toNat:Int)
structure OB (w:World)(B:Nat)(v:Value)(l:List UInt8)(W:World):Prop where
 row:W.ownsRow B 5 1 v l.length (d9d l)
 below:Below w.heap.size w W
 lb:B<=W.heap.size
 wb:w.heap.size<=B
section
variable {w W W':World}{B:Nat}{v:Value}{l:List UInt8}
theorem OB.grown (h:OB w B v l W)(hg:W.grownBy W' none):OB w B v l W' :=
 ⟨by
  refine h.row.kept hg ?_;rcases h.row.2 with⟨rfl,_⟩|⟨g,cap,cur,rfl,_⟩
  ·exact .inl rfl
  ·exact .inr (λe=>by cases e),h.below.grown hg h.below.size (λk e=>by cases e),Nat.le_trans h.lb hg.size,h.wb⟩
theorem OB.alloc (h:OB w B v l W)(o:Obj):OB w B v l (W.alloc o):=h.grown (World.grownBy_alloc W o none)
theorem OB.up (h:OB w B v l W)(hb:Below W.heap.size W W'):OB w B v l W':=h.grown (a0s hb)
end
end
section
open Go.RowKit Go.Shelf
attribute [local go_sem] Oper.semAt_some
attribute [local go_sem ↓] Go.wp_at_zero Go.wp_at_succ
def b5t (n:Nat):UInt8:=(48+n % 10).toUInt8
def FDec (n m r:Nat)(txt:ByteArray)(i:Nat)(v:Value)(w:World):Prop :=
 match i with
 |0=>v= .int .i64 (n:Nat)
 |1=>v= .int .i64 (m:Nat)
 |2=>v= .string txt
 |3=>v= .int .i64 (n:Nat)
 |4=>v= .int .i64 (r:Nat)
 |5=>v= .int .i64 (48+(r:Nat))
 |6=>v= .int .u8 (48+(r:Nat))
 |7=>∃L,v= .slice (some ⟨L,0,none⟩) 1 1/\Blk w L #[.int .u8 (48+(r:Nat))] 5
 |8=>v= .string ⟨#[b5t n]⟩
 |_=>False
theorem FDec.kept {n m r:Nat}{txt:ByteArray}{i:Nat}{v:Value}{w w':World}(h:FDec n m r txt i v w)(hg:Below w.heap.size w w'):FDec n m r txt i v w':=by
 unfold FDec at *;exact yeb
theorem a2z :∀(k n:Nat),n<10 ^ (k+1)->(Lib.decDigits n).length<=k+1
 |0,n,h=>by
  rw[Lib.decDigits,dif_pos (by simpa using h)];simp
 |k+1,n,h=>by
  rw[Lib.decDigits];split
  ·simp
  ·have h2:=a2z k (n / 10) (by rw[Nat.pow_succ]at h;omega)
   rw[List.length_append];simp;omega
def a7c (n:Nat):ByteArray:=⟨(Lib.decDigits n).toArray⟩
theorem a4z (n:Nat):(a7c n).size=(Lib.decDigits n).length:=by
 show(Lib.decDigits n).toArray.size=_;simp
theorem b2a (n:Nat):d5v (a7c n):=by
 have h:∀k n,n<k->∀c∈Lib.decDigits n,48<=c.toNat/\c.toNat<=57:=by
  intro k;induction k with
  |zero=>intro n h;omega
  |succ k ih =>
   intro n h c hc;rw[Lib.decDigits]at hc;have hd:∀m,m<10->48<=(UInt8.ofNat (48+m)).toNat/\(UInt8.ofNat (48+m)).toNat<=57:=λm hm=>by
    rw[UInt8.toNat_ofNat'];omega
   split at hc
   ·rename_i hn
    rw[List.mem_singleton.1 hc];exact hd n hn
   ·rcases List.mem_append.1 hc with hc|hc
    ·exact ih (n / 10) oM c hc
    ·rw[List.mem_singleton.1 hc]
     exact hd _ (Nat.mod_lt _ oM)
 intro i hi;have hl:i<(Lib.decDigits n).length:=by rw[<-a4z];exact hi
 exact h (n+1) n oM _ (List.getElem_mem hl)
end
end Go.Proofs.YtfocdbjceedagaaGreatDoor
namespace Go
open Go.RowKit Go.Shelf
theorem World.setCell_id (w:World)(b o:Nat)(v:Value)(h:w.cell? ⟨b,o,none⟩=some v):w.setCell ⟨b,o,none⟩ v=w:=by
 obtain⟨heap,tape,drawn,os,output⟩:=w;unfold World.setCell;simp only[World.mk.injEq,and_true];apply Array.ext_getElem?;intro i;simp only[Array.getElem?_modify];by_cases hb:b=i
 ·subst hb
  unfold World.cell? at h;simp only[if_true]
  cases hx:heap[b]? with
  |none=>rfl
  |some x =>
   rw[show({ heap:=heap,tape:=tape,drawn:=drawn,os:=os,output:=output }:World).heap[b]? =some x from hx]at h
   cases x <;> try rfl
   rename_i c t f;simp at h ⊢;have h':c[o]? =some v:=h;obtain⟨hl,hv⟩:=Array.getElem?_eq_some_iff.1 h';apply Array.ext_getElem?;intro j;rw[Array.getElem?_setIfInBounds];split
   ·rename_i e;subst e;exact h'.symm
   ·rfl
 ·simp[hb]
end Go
namespace Go.Proofs.YtfocdbjceedagaaGreatDoor
open Go.RowKit Go.Shelf
attribute [local go_sem] Oper.semAt_some
def Ints (n₀:Nat)(W:World)(sv:Value)(xs:List Int):Prop :=
 ∃a cap,sv= .slice a xs.length cap/\∀j,(h:j<xs.length)->∃b off,a=some ⟨b,off,none⟩/\b<n₀/\fits xs[j]/\W.cell? ⟨b,off+j,none⟩=some (.int .i64 xs[j])
theorem Ints.below {n₀:Nat}{A B:World}(h:Below n₀ A B){sv:Value}{xs:List Int}:Ints n₀ A sv xs->Ints n₀ B sv xs
 |⟨a,cap,e,f⟩=>⟨a,cap,e,λj hj=>by
  obtain⟨b,off,h1,h2,h3,h4⟩:=f j hj;exact⟨b,off,h1,h2,h3,(h.cell (p:=⟨b,off+j,none⟩) h2).trans h4⟩⟩
def c1p (xs:List Int)(j:Nat)(m:Int):Int:=xs.getD j 0 % m
theorem d2g (xs:List Int)(j:Nat){m:Int}(h:1<=m):0<=c1p xs j m/\c1p xs j m<m:=⟨Int.emod_nonneg _ oM,Int.emod_lt_of_pos _ oM⟩
theorem Below.of_grown {n₀:Nat}{W W':World}{row:Option Nat}(hg:W.grownBy W' row)(hn:n₀<=W.heap.size)(hr:∀r,row=some r->n₀<=r):Below n₀ W W' :=
 ⟨hg.os,hg.tape,hg.output,hg.size,λi hi=>hg.block i oM (λe=>by have:=hr i e.symm;omega)⟩
theorem b5u (W:World)(b i:Nat)(v:Value)(p:Growth):W.grownBy ((W.setCell ⟨b,i,none⟩ v).growBy p) (some b):=by
 refine⟨rfl,rfl,rfl,by simp,λk hk hne=> ?_⟩;rw[World.heap_growBy _ _ (by simpa using hk)];exact Below.heap_setCell _ _ _ _ (λe=>hne (by rw[e]))
end Go.Proofs.YtfocdbjceedagaaGreatDoor
namespace Go.Proofs.YtfocdbjceedagaaGreatDoor
open Tryz
section
open Go.RowKit Go.Shelf
section
variable {H:Type}{enc:TypeId×Value->H}{P:Program}{W:World}{base:Nat}{sp:Nat->Bool}{hd:Bool}{t e:TypeId}{v:Value}
theorem d2h (z:Int)(h:(Lit.int .i64 z).wf=true):fits z:=by
 exact yjq
instance : Inhabited Dt:=⟨⟨0,0,0,0⟩⟩
end
end
section
open Go Go.RowKit Go.Shelf Go.Lib
attribute [local go_sem] Oper.semAt_some
attribute [local go_sem ↓] Go.wp_at_zero Go.wp_at_succ
variable{b cap n0 off:Nat}{W:World}
abbrev dtE :El Dt:=⟨54,4,a2c⟩
theorem a8a:dtE.Ok:=⟨λ_=>rfl,jM,λx u hu=>by
 simp at hu;rcases hu with rfl|rfl|rfl|rfl <;> rfl⟩
theorem d9j:dtE.In prog 41:=El.in_of (z:= .agg #[.int .i64 0,.int .i64 0,.int .i64 0,.int .i64 0]) (s:=4) (bytes:=32) underlying41 zM rfl oM rfl
abbrev lfE :El Lf:=⟨68,3,λl=>[.int .i64 l.p,.int .i64 l.k,.int .i64 l.i]⟩
theorem b8j:lfE.Ok:=⟨λ_=>rfl,jM,λx u hu=>by
 simp at hu;rcases hu with rfl|rfl|rfl <;> rfl⟩
theorem d9e:lfE.In prog 43:=El.in_of (z:= .agg #[.int .i64 0,.int .i64 0,.int .i64 0]) (s:=3) (bytes:=24) underlying43 zM rfl oM rfl
abbrev keE :El Ke:=⟨82,3,λk=>[.int .i64 k.n,.int .i64 k.p,.string k.c]⟩
theorem c1q:keE.Ok:=⟨λ_=>rfl,jM,λx u hu=>by
 simp at hu;rcases hu with rfl|rfl|rfl <;> rfl⟩
theorem d9k:keE.In prog 42:=El.in_of (z:= .agg #[.int .i64 0,.int .i64 0,.string ⟨#[]⟩]) (s:=3) (bytes:=32) underlying42 zM rfl oM rfl
abbrev dtV (d:Dt):Value:= .agg #[.int .i64 d.x,.int .i64 d.y,.int .i64 d.k,.int .i64 d.i]
structure Sm (d:Dt):Prop where
 x0 : -1000000<=d.x
 x1:d.x<=1000000
 y0 : -1000000<=d.y
 y1:d.y<=1000000
instance : Inhabited Lf:=⟨⟨0,0,0⟩⟩
instance : Inhabited Ke:=⟨⟨0,0,⟨#[]⟩⟩⟩
def a7d (g:Int)(a b:Dt):Bool:=(decide (a.k≠b.k)||decide (a.i≠b.i))&&(decide (max (IntKind.i64.wrap (a.x-b.x)) (IntKind.i64.wrap (b.x-a.x))<g)&&decide (max (IntKind.i64.wrap (a.y-b.y)) (IntKind.i64.wrap (b.y-a.y))<g))
theorem b5v {g:Int}{a b:Dt}(ha:Sm a)(hb:Sm b):a7d g a b=b5s g a b:=by
 obtain⟨a0,a1,a2,a3⟩:=ha;obtain⟨b0,b1,b2,b3⟩:=hb;unfold a7d b5s;rw[a0k (x:=a.x-b.x) oM oM,a0k (x:=b.x-a.x) oM oM,a0k (x:=a.y-b.y) oM oM,a0k (x:=b.y-a.y) oM oM]
theorem b4k (a b:Dt)(g:Int)(w:World):
 Calls prog 88 #[dtV a,dtV b,.int .i64 g] w λe w'=>e= .returned (.bool (a7d g a b))/\Below w.heap.size w w':=by
 obtain⟨ax,ay,ak,ai⟩:=a;obtain⟨bx,b_y,bk,bi⟩:=b;obtain⟨r,hr⟩:=zE (a7d g ⟨ax,ay,ak,ai⟩ ⟨bx,b_y,bk,bi⟩);rw[hr];unfold a7d at hr;simp only at hr;obtain⟨u1,e1⟩:=zE (IntKind.i64.wrap (ax-bx));obtain⟨u2,e2⟩:=zE (IntKind.i64.wrap (bx-ax));obtain⟨u3,e3⟩:=zE (IntKind.i64.wrap (ay-b_y));obtain⟨u4,e4⟩:=zE (IntKind.i64.wrap (b_y-ay));rw[e1,e2,e3,e4]at hr;obtain⟨tk,htk⟩:=zE ((!(ak==bk)));obtain⟨ti,hti⟩:=zE ((!(ai==bi)));obtain⟨tx,htx⟩:=zE (decide (max u1 u2<g));obtain⟨ty,hty⟩:=zE (decide (max u3 u4<g));have k1:decide (ak≠bk)=tk:=by rw[<-htk];exact Bool.eq_iff_iff.2 vM
 have k2:decide (ai≠bi)=ti:=by rw[<-hti];exact Bool.eq_iff_iff.2 vM
 rw[k1,k2,htx,hty]at hr;clear k1 k2;replace hr:=Lib.hid hr;go_enter func88,ntmps88;go_wp2_with fail
 all_goals (go_ret;refine⟨?_,zC⟩;have h2:=hr.out;clear hr;first|(simp_all [bne];done)|(cases tk <;> cases ti <;> simp_all [bne]))
def b2b (o:Option Nat):Int:=match o with|some k=>(k:Nat)|none => -1
theorem a5a {α:Type}(p:α->Bool)(d:α):∀(l:List α) (i:Nat),Lib.idxByFrom (λ_ y=>p y) d l i=match l.findIdx? p with|some k=>((i+k:Nat):Int)|none => -1
 |[],i=>rfl
 |y::l,i=>by
  unfold Lib.idxByFrom;rw[List.findIdx?_cons]
  cases h:p y with
  |true=>simp
  |false =>
   rw[a5a p d l (i+1)]
   cases l.findIdx? p with
   |none=>rfl
   |some k=>show((i+1+k:Nat):Int)=((i+(k+1):Nat):Int);congr 1;omega
theorem a8i {α:Type}(p:α->Bool)(d:α)(l:List α):Lib.idxBy (λ_ y=>p y) l d=b2b (l.findIdx? p):=by
 unfold Lib.idxBy;rw[a5a]
 cases l.findIdx? p <;> simp[b2b]
theorem c5o (a b:Dt)(g:Int)(A G:Nat)(w:World)(hA:Blk w A #[.int .i64 a.x,.int .i64 a.y,.int .i64 a.k,.int .i64 a.i] 54)(hG:w.cell? ⟨G,0,none⟩=some (.int .i64 g)):
 Calls prog 87 #[dtV b,.pointer (some ⟨A,0,none⟩),.pointer (some ⟨G,0,none⟩)] w λe w'=>e= .returned (.bool (a7d g a b))/\Below w.heap.size w w':=by
 have h0:=b4k a b g;obtain⟨ax,ay,ak,ai⟩:=a;obtain⟨bx,b_y,bk,bi⟩:=b;obtain⟨r,hr⟩:=zE (a7d g ⟨ax,ay,ak,ai⟩ ⟨bx,b_y,bk,bi⟩);rw[hr]at h0 ⊢;clear hr;have c0:=hA.cell 0;have c1:=hA.cell 1;have c2:=hA.cell 2;have c3:=hA.cell 3;simp only at c0 c1 c2 c3;replace c0:w.cell? ⟨A,0,none⟩=some (.int .i64 ax):=c0;replace c1:w.cell? ⟨A,1,none⟩=some (.int .i64 ay):=c1;replace c2:w.cell? ⟨A,2,none⟩=some (.int .i64 ak):=c2;replace c3:w.cell? ⟨A,3,none⟩=some (.int .i64 ai):=c3;go_enter func87,ntmps87;go_wp2_with (go_at_call 88;refine(h0 _).mono ?_;rintro e w'⟨rfl,hb_⟩;obtain⟨p,rfl⟩:=a0b hb_;clear hb_);exact ybl
theorem a3p {α:Type}[Inhabited α]{E:El α}{l:List α}(h:Lst E n0 W (.slice (some ⟨b,off,none⟩) l.length cap) l)(hlen:∀x,(E.enc x).length=E.s):∀j,j<l.length->∀i v,(E.enc l[j]!)[i]? =some v->W.cell? ⟨b,off+j*E.s+i,none⟩=some v:=by
 intro j hj i v hv;obtain⟨b',off',cap',e,-,-,hc⟩:=h.some_ oM;simp only[Value.slice.injEq,Option.some.injEq,Addr.mk.injEq]at e;obtain⟨⟨rfl,rfl,-⟩,-,-⟩:=e;have hi:=(List.getElem?_eq_some_iff.1 hv).1;rw[hlen]at hi;rw[getElem!_pos l j hj]at hv;rw[<-hv];exact hc j hj i hi
theorem d5f {α:Type}{E:El α}{l:List α}(h:Lst E n0 W (.slice (some ⟨b,off,none⟩) l.length cap) l)(hl:l≠[]):b<n0:=by
 obtain⟨b',off',cap',e,-,hb,-⟩:=h.some_ (List.length_pos_iff.2 hl);simp only[Value.slice.injEq,Option.some.injEq,Addr.mk.injEq]at e;obtain⟨⟨rfl,rfl,-⟩,-,-⟩:=e;exact hb
theorem d2i (a:Option Addr)(c:Nat)(fv:Value)(w:World):Calls prog 45 #[.slice a 0 c,fv] w λe w'=>e= .returned (.int .i64 (-1))/\Below w.heap.size w w':=by
 go_enter func45,ntmps45;go_wp2_with fail;refine wp_loop_rounds 1 ?_;rw[rounds_succ];exact yed
theorem d2j (a:Option Addr)(c:Nat)(fv:Value)(w:World):Calls prog 152 #[.slice a 0 c,fv] w λe w'=>e= .returned (.int .i64 (-1))/\Below w.heap.size w w':=by
 go_enter func152,ntmps152;go_wp2_with fail;refine wp_loop_rounds 1 ?_;rw[rounds_succ];exact yed
theorem a5l (v:Value)(l:List Dt)(w:World)(h:Lst dtE w.heap.size w v l)(hf:Frm v l.length)(p:Dt->Bool)(g:Nat)(lb:Array Value)(eg:∀args w,(callFunc g args).run prog w= .ok (.enter g args) w)(hp:PredBelow prog g lb (λx:Dt=> .agg (a2c x).toArray) p w):
 Calls prog 45 #[v,.func (.func g) #[] lb] w λe w'=>e= .returned (.int .i64 (b2b (l.findIdx? p)))/\Below w.heap.size w w':=by
 by_cases hl:l=[]
 ·subst hl
  obtain⟨a,c,rfl,-⟩:=h.form;exact d2i a c _ w
 ·rcases hf with rfl|⟨b,off,cap,rfl⟩
  ·exact yht
  ·have hlen:=h.len
   refine(AnyQ.slices_IndexFunc Tryz.dotsIndex 4 isAgg54 sizeOf54 a2c (λ_=>rfl) p g lb eg b off l.length cap l w hp (yR _) oM (d5f h hl) (a3p h (λ_=>rfl))).mono ?_;exact yjt
theorem c1r (v:Value)(l:List Lf)(w:World)(h:Lst lfE w.heap.size w v l)(hf:Frm v l.length)(p:Lf->Bool)(g:Nat)(lb:Array Value)(eg:∀args w,(callFunc g args).run prog w= .ok (.enter g args) w)(hp:PredBelow prog g lb (λx:Lf=> .agg (lfE.enc x).toArray) p w):
 Calls prog 152 #[v,.func (.func g) #[] lb] w λe w'=>e= .returned (.int .i64 (b2b (l.findIdx? p)))/\Below w.heap.size w w':=by
 by_cases hl:l=[]
 ·subst hl
  obtain⟨a,c,rfl,-⟩:=h.form;exact d2j a c _ w
 ·rcases hf with rfl|⟨b,off,cap,rfl⟩
  ·exact yht
  ·have hlen:=h.len
   refine(AnyQ.slices_IndexFunc Tryz.leftIndex 3 isAgg68 sizeOf68 lfE.enc (λ_=>rfl) p g lb eg b off l.length cap l w hp (yR _) oM (d5f h hl) (a3p h (λ_=>rfl))).mono ?_;exact yjt
theorem d5y {α:Type}(p:α->Bool)(l:List α):decide (0<=b2b (l.findIdx? p))=l.any p:=by
 cases h:l.findIdx? p with
 |none =>
  rw[List.findIdx?_eq_none_iff]at h;rw[List.any_eq_false.2 (by simpa using h)];rfl
 |some k =>
  obtain⟨hk,h1,-⟩:=List.findIdx?_eq_some_iff_getElem.1 h;rw[List.any_eq_true.2 ⟨_,List.getElem_mem hk,h1⟩];show decide ((0:Int)<=(k:Nat))=true;exact decide_eq_true oM
theorem b3q (v:Value)(l:List Dt)(w:World)(h:Lst dtE w.heap.size w v l)(hf:Frm v l.length)(p:Dt->Bool)(g:Nat)(lb:Array Value)(eg:∀args w,(callFunc g args).run prog w= .ok (.enter g args) w)(hp:PredBelow prog g lb (λx:Dt=> .agg (a2c x).toArray) p w):
 Calls prog 86 #[v,.func (.func g) #[] lb] w λe w'=>e= .returned (.bool (l.any p))/\Below w.heap.size w w':=by
 have h0:=a5l v l w h hf p g lb eg hp;rw[<-d5y];obtain⟨r,hr⟩:=zE (b2b (l.findIdx? p));rw[hr]at h0 ⊢;clear hr hp h;obtain⟨a,n,c,rfl⟩:∃a n c,v= .slice a n c:=by rcases hf with rfl|⟨b,off,cap,rfl⟩ <;> exact⟨_,_,_,rfl⟩
 clear hf;go_enter func86,ntmps86;go_wp2_with (go_at_call 45;refine(h0).mono ?_;rintro e w'⟨rfl,hb_⟩;obtain⟨p,rfl⟩:=a0b hb_;clear hb_);exact ybl
theorem c5p (a:Dt)(g:Int)(O G:Nat)(ov:Value)(o:List Dt)(n0:Nat)(w:World)(hO:w.cell? ⟨O,0,none⟩=some ov)(ho:Lst dtE w.heap.size w ov o)(hf:Frm ov o.length)(hG:w.cell? ⟨G,0,none⟩=some (.int .i64 g)):
 Calls prog 85 #[dtV a,.pointer (some ⟨O,0,none⟩),.pointer (some ⟨G,0,none⟩)] w λe w'=>e= .returned (.bool (o.any (a7d g a)))/\Below w.heap.size w w':=by
 obtain⟨oa,oc,rfl,-⟩:=ho.form;obtain⟨ax,ay,ak,ai⟩:=a;have hb1:Below w.heap.size w (w.alloc (.cells #[.int .i64 ax,.int .i64 ay,.int .i64 ak,.int .i64 ai] 54)):=(zR _ _).alloc (yR _) _;have h0:=b3q (.slice oa o.length oc) o (w.alloc (.cells #[.int .i64 ax,.int .i64 ay,.int .i64 ak,.int .i64 ai] 54)) (ho.up hb1) hf (a7d g ⟨ax,ay,ak,ai⟩) 87 #[.pointer (some ⟨w.heap.size,0,none⟩),.pointer (some ⟨G,0,none⟩)] (enters_of func87 zM rfl)
  (λW x hb=>(c5o ⟨ax,ay,ak,ai⟩ x g w.heap.size G W ((Blk.new w #[.int .i64 ax,.int .i64 ay,.int .i64 ak,.int .i64 ai] 54).below hb vM) ((hb.cell (p:=⟨G,0,none⟩) (by have:=World.block_lt_of_cell? _ _ hG;simp only[World.size_alloc];simp only at this;omega)).trans ((hb1.cell (p:=⟨G,0,none⟩) (World.block_lt_of_cell? _ _ hG)).trans hG))).mono λ_ _ ⟨he,h⟩=>⟨he,hb.trans (h.mono hb.size)⟩)
 obtain⟨r,hr⟩:=zE (o.any (a7d g ⟨ax,ay,ak,ai⟩));rw[hr]at h0 ⊢;clear hr;go_enter func85,ntmps85;go_wp2_with (go_at_call 86;refine(h0).mono ?_;rintro e w'⟨rfl,hb_⟩;obtain⟨p,rfl⟩:=a0b hb_;clear hb_);exact ybl
theorem a1i {P:Program}{fn:Func}{p u:Tmp}{ty:TypeId}(h:fn.results= #[.cell p ty,.tmp u])(tmps:Array Value)(w:World)(g:Nat)(t:TypeId)(cs:Array Value)(fr:Nat×Nat)(d:TypeDesc)
 (hp:tmps.getD p undef= .pointer (some ⟨g,0,none⟩)) (hg:w.heap[g]? =some (.cells cs t fr)) (hu:P.underlying ty=some d) (hd:(match d with | .struct _ | .array _ _=>true|_=>false)=true) (hi:(P.info? ty).map (·.size)=some cs.size) :
 (results fn tmps).run P w= .ok (.tuple #[.agg cs,tmps.getD u undef]) w:=by
 rw[results_cell_tmp h,hp];simp[asAddr,run_loadVar_row w g t ty cs fr d hg hu hd hi,Result.andThen]
def c4j (g:Int)(l o:List Dt):Option Dt:=l.find? λa=>o.any (a7d g a)
def c8p (o:Option Dt):Value:=match o with|some d=> .tuple #[dtV d,.bool true]|none=> .tuple #[dtV ⟨0,0,0,0⟩,.bool false]
theorem c4k {α:Type}(p:α->Bool)(l:List α):(l.findIdx? p=none/\l.find? p=none)\/∃k,∃h:k<l.length,l.findIdx? p=some k/\l.find? p=some l[k]:=by
 cases h:l.findIdx? p with
 |none =>
  left;rw[List.findIdx?_eq_none_iff]at h;exact⟨rfl,List.find?_eq_none.2 (by simpa using h)⟩
 |some k =>
  right;obtain⟨hk,h1,h2⟩:=List.findIdx?_eq_some_iff_getElem.1 h;refine⟨k,hk,rfl,?_⟩;rw[List.find?_eq_some_iff_getElem];exact⟨h1,k,hk,rfl,λj hj=>by simpa using h2 j hj⟩
theorem b8k (g:Int)(lv ov:Value)(l o:List Dt)(w:World)(hl:Lst dtE w.heap.size w lv l)(hlf:Frm lv l.length)(ho:Lst dtE w.heap.size w ov o)(hof:Frm ov o.length):
 Calls prog 36 #[lv,ov,.int .i64 g] w λe w'=>e= .returned (c8p (c4j g l o))/\Below w.heap.size w w':=by
 obtain⟨oa,oc,rfl,-⟩:=ho.form;obtain⟨la,lc,rfl,-⟩:=hl.form;obtain⟨W,hW⟩:=zE (((w.alloc (.cells #[.slice oa o.length oc] 41)).alloc (.cells #[.int .i64 g] 3)).alloc (.cells #[.int .i64 0,.int .i64 0,.int .i64 0,.int .i64 0] 54));have hb:Below w.heap.size w W:=by rw[<-hW];exact zC
 have kO:Blk W w.heap.size #[.slice oa o.length oc] 41:=by rw[<-hW];exact((Blk.new _ _ _).alloc _).alloc _
 have kG:Blk W (w.heap.size+1) #[.int .i64 g] 3:=by rw[<-hW];have:=(Blk.new (w.alloc (.cells #[.slice oa o.length oc] 41)) #[.int .i64 g] 3).alloc (.cells #[.int .i64 0,.int .i64 0,.int .i64 0,.int .i64 0] 54);rwa [World.size_alloc]at this
 have h0:=a5l (.slice la l.length lc) l W (hl.up hb) hlf (λa=>o.any (a7d g a)) 85 #[.pointer (some ⟨w.heap.size,0,none⟩),.pointer (some ⟨w.heap.size+1,0,none⟩)] (enters_of func85 zM rfl)
  (λX x hx=>(c5p x g w.heap.size (w.heap.size+1) (.slice oa o.length oc) o 0 X ((kO.below hx kO.lt).cell 0) ((ho.up hb).up hx) hof ((kG.below hx kG.lt).cell 0)).mono λ_ _ ⟨he,h⟩=>⟨he,hx.trans (h.mono hx.size)⟩)
 have hlW:=hl.up hb;unfold c4j;rcases c4k (λa=>o.any (a7d g a)) l with⟨h1,h2⟩|⟨k,hk,h1,h2⟩
 ·rw[h1]at h0
  rw[h2];replace h0:Calls _ _ _ _ λe w'=>e= .returned (.int .i64 (-1))/\Below W.heap.size W w':=h0
  rw[<-hW]at h0;clear h1 h2 hW hb kO kG hlW;go_enter func36,ntmps36;go_wp2_with (go_at_call 45;refine(h0).mono ?_;rintro e w'⟨rfl,hb_⟩;obtain⟨p,rfl⟩:=a0b hb_;clear hb_);have k2:Blk ((((w.alloc (.cells #[.slice oa o.length oc] 41)).alloc (.cells #[.int .i64 g] 3)).alloc (.cells #[.int .i64 0,.int .i64 0,.int .i64 0,.int .i64 0] 54)).growBy p) (w.heap.size+1+1) #[.int .i64 0,.int .i64 0,.int .i64 0,.int .i64 0] 54:=by have:=(Blk.new ((w.alloc (.cells #[.slice oa o.length oc] 41)).alloc (.cells #[.int .i64 g] 3)) #[.int .i64 0,.int .i64 0,.int .i64 0,.int .i64 0] 54).grow p;simp only[World.size_alloc]at this;exact this
  exact bodyPost_ret (a1i qM _ _ _ 54 _ (0,0) _ qM k2 underlying54 qM zM) rfl ⟨rfl,zC⟩
 ·rw[h1]at h0
  rw[h2];replace h0:Calls _ _ _ _ λe w'=>e= .returned (.int .i64 (k:Nat))/\Below W.heap.size W w':=h0
  obtain⟨b,off,cap,hv,-,hlb,hc⟩:=hlW.some_ oM;simp only[Value.slice.injEq,true_and]at hv;obtain⟨rfl,rfl⟩:=hv;obtain⟨d,hd⟩:=zE (l[k]);have hck:=hc k hk;rw[hd]at hck;rw[hd];obtain⟨dx,dy,dk,di⟩:=d;have c0:W.cell? ⟨b,off+k*4,none⟩=some (.int .i64 dx):=hck 0 (show 0<4 by decide);have c1:W.cell? ⟨b,off+k*4+1,none⟩=some (.int .i64 dy):=hck 1 (show 1<4 by decide);have c2:W.cell? ⟨b,off+k*4+2,none⟩=some (.int .i64 dk):=hck 2 (show 2<4 by decide);have c3:W.cell? ⟨b,off+k*4+3,none⟩=some (.int .i64 di):=hck 3 (show 3<4 by decide);have hkI:(k:Int)<(l.length:Int):=oM;have hk0:¬(k:Int)<0:=oM;have k2:Blk W (w.heap.size+1+1) #[.int .i64 0,.int .i64 0,.int .i64 0,.int .i64 0] 54:=by rw[<-hW];have:=Blk.new ((w.alloc (.cells #[.slice oa o.length oc] 41)).alloc (.cells #[.int .i64 g] 3)) #[.int .i64 0,.int .i64 0,.int .i64 0,.int .i64 0] 54;simp only[World.size_alloc]at this;exact this
  have x0:=k2.cell 0;have x1:=k2.cell 1;have x2:=k2.cell 2;have x3:=k2.cell 3;have z0:=k2.frozen 0;have z1:=k2.frozen 1;have z2:=k2.frozen 2;have z3:=k2.frozen 3;replace x0:W.cell? ⟨w.heap.size+1+1,0,none⟩=some (.int .i64 0):=x0;replace x1:W.cell? ⟨w.heap.size+1+1,1,none⟩=some (.int .i64 0):=x1;replace x2:W.cell? ⟨w.heap.size+1+1,2,none⟩=some (.int .i64 0):=x2;replace x3:W.cell? ⟨w.heap.size+1+1,3,none⟩=some (.int .i64 0):=x3;have kF:=(((k2.set 0 (.int .i64 dx)).set 1 (.int .i64 dy)).set 2 (.int .i64 dk)).set 3 (.int .i64 di);clear h1 h2 kO kG hlW hck hc hl ho hd;go_enter func36,ntmps36;go_upto_region 1 with fail;clear hW;go_wp2_with (go_at_call 45;refine(h0).mono ?_;rintro e w'⟨rfl,hb_⟩;obtain⟨p,rfl⟩:=a0b hb_;clear hb_);have hsz:=hb.size;exact bodyPost_ret (a1i qM _ _ _ 54 _ (0,0) _ qM (kF.grow p) underlying54 qM zM) rfl ⟨rfl,zC⟩
end
section
open Go Go.RowKit Go.Shelf
attribute [local go_sem] Oper.semAt_some
variable{s:ByteArray}
theorem b8l (s:ByteArray)(pos:Nat)(h:pos<s.size)(ha:¬(s[pos]'h).toNat<128):128<=(Utf8.decode s pos).1:=by
 have e:s.get! (pos+0)=s[pos]'h:=by
  show s.get! pos=_;simp[ByteArray.get!,getElem!_pos,h];rfl
 unfold Utf8.decode;simp only[e];rw[if_neg ha];have hr:128<=Utf8.runeError:=jM;repeat' split
 all_goals first|exact hr|(simp only[ge_iff_le,decide_eq_true_eq,Bool.and_eq_true]at *;omega)
theorem b3r {P:Program}(w:World)(s:ByteArray)(pos:Nat)(ty:TypeId)(h:pos<s.size):
 (Instr.next (.pointer (some ⟨w.heap.size,0,none⟩)) true ty).run P (w.iter s pos) =
  .ok (.tuple #[.bool true,.int .i64 pos,.int .i32 (Utf8.decode s pos).1]) (w.iter s (pos+(Utf8.decode s pos).2)):=by
 simp only[Instr.next,getObj,setObj,Sem.run_bind,Sem.run,World.iter_heap,Result.andThen,h,if_true,World.iter_set];simp[goInt,Sem.run,World.iter_heap,World.iter_set]
def okB (c:UInt8):Bool:=decide (32<=c.toNat)&&decide (c.toNat<=126)&&decide (c.toNat≠34)
def a5q (s:ByteArray):Bool:=s.data.toList.all okB
theorem b2c (h:a5q s=true)(i:Nat)(hi:i<s.size):okB (s[i]'hi)=true:=by
 unfold a5q at h;rw[List.all_eq_true]at h;exact h _ (Array.mem_toList_iff.2 (Array.getElem_mem hi))
theorem b8m (h:∀i (hi:i<s.size),okB (s[i]'hi)=true):a5q s=true:=by
 unfold a5q;rw[List.all_eq_true];intro c hc;obtain⟨i,hi,rfl⟩:=List.getElem_of_mem hc;exact h i (by simpa using hi)
theorem b2d (i:Nat)(hi:i<s.size)(h:okB (s[i]'hi)=false):a5q s=false:=by
 cases hr:a5q s with
 |false=>rfl
 |true=>rw[b2c hr i hi]at h;cases h
theorem b8n (s:ByteArray)(hl:s.size<=1000000)(w:World):Calls prog 113 #[.string s] w λe w'=>e= .returned (.bool (a5q s))/\Below w.heap.size w w':=by
 obtain⟨r,hr⟩:=zE (a5q s);rw[hr];go_enter func113,ntmps113;go_wp2_with fail;go_loopw [7] (λ_ W=>∃n:Nat,n<=s.size/\W=w.iter s n/\∀i (hi:i<n) (hs:i<s.size),okB (s[i]'hs)=true) (λ_ W=>b1b w.heap.size s W)
 case atStart=>exact⟨0,Nat.zero_le _,rfl,λi hi=>absurd hi (Nat.not_lt_zero _)⟩
 case round =>
  obtain⟨n,hn,rfl,hok⟩:=hrel;have hokH:=Lib.hid hok;clear hok;by_cases hlt:n<s.size
  ·by_cases ha:(s[n]'hlt).toNat<128
   ·have hr':∀ty,(Instr.next (.pointer (some ⟨w.heap.size,0,none⟩)) true ty).run prog (w.iter s n)= .ok (.tuple #[.bool true,.int .i64 n,.int .i32 (s[n]'hlt).toNat]) (w.iter s (n+1)):=λty=>run_next_ascii w s n ty hlt ha
    obtain⟨u,hu⟩:=zE (s[n]'hlt);obtain⟨c,hc⟩:=zE u.toNat;rw[hu,hc]at hr';rw[hu,hc]at ha;by_cases hk:okB u=true
    ·have hk2:=hk
     unfold okB at hk2;rw[hc]at hk2;simp only[Bool.and_eq_true,decide_eq_true_eq]at hk2;obtain⟨⟨q0,q1⟩,q2⟩:=hk2;have k0:¬(c:Int)<32:=oM;have k1:¬(126:Int)<c:=oM;have k2:¬(c:Int)=34:=oM;have hnext:Hid (∀i (hi:i<n+1) (hs:i<s.size),okB (s[i]'hs)=true):=λi hi hs=>by
      by_cases h9:i=n
      ·subst h9;rw[hu];exact hk
      ·exact hokH.out i oM hs
     clear hk hc hu q0 q1 q2;go_wp2_with fail;go_roundw
     case rel=>exact⟨n+1,oM,rfl,hnext.out⟩
     case measure=>rw[a5k,a5k];omega
    ·have hno:=b2d n hlt (by rw[hu];simpa using hk)
     rw[hr]at hno;subst hno;have hk2:c<32\/126<c\/c=34:=by
      unfold okB at hk;rw[hc]at hk;simp only[Bool.and_eq_true,decide_eq_true_eq,not_and]at hk;omega
     clear hk hc hu hr;rcases hk2 with h9|h9|h9
     ·have k0:(c:Int)<32:=oM
      exact ydh
     ·have k0:¬(c:Int)<32:=oM
      have k1:(126:Int)<c:=oM;exact ydh
     ·subst h9
      exact ydh
   ·have hr':∀ty,(Instr.next (.pointer (some ⟨w.heap.size,0,none⟩)) true ty).run prog (w.iter s n)= .ok (.tuple #[.bool true,.int .i64 n,.int .i32 (Utf8.decode s n).1]) (w.iter s (n+(Utf8.decode s n).2)):=λty=>b3r w s n ty hlt
    have hd:=b8l s n hlt ha;have hno:=b2d n hlt (by unfold okB;rw[Bool.and_eq_false_iff,Bool.and_eq_false_iff];exact .inl (.inr (decide_eq_false oM)));rw[hr]at hno;subst hno;obtain⟨c,hc⟩:=zE ((Utf8.decode s n).1);rw[hc]at hr' hd;have k0:¬(c:Int)<32:=oM;have k1:(126:Int)<c:=oM;clear hc hr ha hd;exact ydh
  ·obtain rfl:n=s.size:=oM
   have hr':∀ty,(Instr.next (.pointer (some ⟨w.heap.size,0,none⟩)) true ty).run prog (w.iter s s.size)= .ok (.tuple #[.bool false]) (w.iter s s.size):=λty=>run_next_end w s s.size ty oM
   have hyes:=b8m (s:=s) λi hi=>hokH.out i hi hi
   rw[hr]at hyes;subst hyes;clear hr;exact ydh
end
end Go.Proofs.YtfocdbjceedagaaGreatDoor
