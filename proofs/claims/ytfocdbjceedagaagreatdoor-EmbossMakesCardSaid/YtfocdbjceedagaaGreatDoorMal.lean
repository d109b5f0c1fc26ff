/-
  Parts.
-/
import Derived.Test.YtfocdbjceedagaaGreatDoorMak
set_option linter.unusedVariables false
set_option linter.unusedSimpArgs false
set_option maxHeartbeats 2000000
set_option maxRecDepth 100000
namespace Go.Proofs.YtfocdbjceedagaaGreatDoor
open Tryz
section
open Go.RowKit Go.Shelf
attribute [local go_sem] Oper.semAt_some
variable{cls:ByteArray}{i id j num x y:Int}{s:Sh}{W:World}
def Pow (W : World) : Prop := Lib.TabIs prog W "internal/strconv.uint64pow10" .u64 Lib.pow10Tab
theorem Pow.below {W':World}(h:Pow W)(hb:Below W.heap.size W W'):Pow W':=by
 unfold Pow Lib.TabIs World.var? at *;obtain⟨g,hg,h2⟩:=Option.bind_eq_some_iff.1 h;rw[hg];have hlt:g<W.heap.size:=by
  cases ho:W.heap[g]? with
  |none=>rw[ho]at h2;cases h2
  |some o=>exact(Array.getElem?_eq_some_iff.1 ho).1
 show(match W'.heap[g]? with|some (.cells cs _ _)=>some cs|_=>none)=_;rw[hb.block g hlt];exact h2
def plM (cls:ByteArray):Nat:=((b0z cls.data.toList).tmod 7).toNat
theorem d5g (cls:ByteArray):plM cls<7/\(b0z cls.data.toList).tmod 7=plM cls:=by
 have h:=(c1j cls.data.toList).1;have h1:=Int.tmod_nonneg 7 h;have h2:=Int.tmod_lt_of_pos (b0z cls.data.toList) (b:=7) oM;unfold plM;omega
def b8z (i j:Int)(cls:ByteArray)(num:Int):List a0m:=a1r i j (a4u (plM cls)) (a3f num.toNat) (a1a num.toNat).size
def plF (s:Sh)(x y id:Int)(cls:ByteArray)(num:Int):Bool×List Dt :=
 if(ofS s x y).2.2&&decide (1<=num)&&decide (num<=999)&&(b8z (ofS s x y).1 (ofS s x y).2.1 cls num).all (λp=>onS s p.1 p.2)then(true,b3s id (b8z (ofS s x y).1 (ofS s x y).2.1 cls num))else(false,[])
theorem c8z {b:Bool}(h:ofS s x y=(i,j,b))(hno:b=false\/num<1\/999<num):plF s x y id cls num=(false,[]):=by
 unfold plF;rw[h];rw[if_neg];rcases hno with rfl|h|h
 ·simp
 ·rw[decide_eq_false (show ¬1<=num by omega)];simp
 ·rw[decide_eq_false (show ¬num<=999 by omega)];simp
theorem c9a (h:ofS s x y=(i,j,true))(h0:1<=num)(h1:num<=999):plF s x y id cls num=if(b8z i j cls num).all (λp=>onS s p.1 p.2)then(true,b3s id (b8z i j cls num))else(false,[]):=by
 unfold plF;rw[h];simp only[decide_eq_true h0,decide_eq_true h1,Bool.true_and]
theorem b0c (i j:Int)(r:Nat->Bool)(n:Nat)(hn:n<=999):(a1r i j r (a3f n) (a1a n).size).length<=33:=by
 have h1:=a4c i j (a3f n) (a3w i j r 9) (a1a n).size;have h2:=a5d i j r 9;have h3:=a8l n hn;unfold a1r;omega
theorem b4p (s:ByteArray):∀n,(a7z s (n+1))[0]? =some 60
 |0=>by simp[a7z]
 |n+1=>by
  have h:=b4p s n;rw[a7z,if_neg oM,List.getElem?_append_left (by obtain⟨h1,-⟩:=List.getElem?_eq_some_iff.1 h;exact h1)];exact h
theorem c1v (n:Nat):a3f n 0 2=true/\1<=(a1a n).size:=by
 have hl:0<(Lib.decDigits n).length:=by rw[Lib.decDigits];split <;> simp
 have hs:0<(a7c n).size:=by rw[a4z];exact hl
 obtain⟨k,hk⟩:∃k,(a7c n).size=k+1:=⟨(a7c n).size-1,oM⟩;have hf:=b4p (a7c n) k;rw[<-hk]at hf;obtain⟨h0,h1⟩:=List.getElem?_eq_some_iff.1 hf;have hz:0<(a1a n).size:=by rw[a7p];exact h0
 refine⟨?_,hz⟩;rw[a4m n 0 hz 2];have h2:(a1a n)[0]'hz=60:=h1;rw[h2];decide
theorem c1w (i j:Int)(k:Nat)(d:Nat->Bool)(l:List a0m)(h:d 2=true):a4l i j k d l 6≠[]:=by
 simp only[a4l,h,if_true];simp
theorem b0d (i j:Int)(D:Nat->Nat->Bool)(l:List a0m)(h:D 0 2=true):∀n,a2g i j D l (n+1)≠[]
 |0=>by rw[a2g];exact c1w _ _ _ _ _ h
 |n+1=>by
  have ih:=b0d i j D l h n;rw[a2g];simp only[a4l];simp[ih]
theorem c1x (i j id:Int)(r:Nat->Bool)(n:Nat):a6e i j id r (a3f n) (a1a n).size≠[]:=by
 obtain⟨h1,h2⟩:=c1v n;obtain⟨k,hk⟩:∃k,(a1a n).size=k+1:=⟨(a1a n).size-1,oM⟩;have h3:=b0d i j (a3f n) (a3w i j r 9) h1 k;rw[a9k];unfold a1r;rw[hk];obtain⟨q,hq⟩:=List.exists_mem_of_ne_nil _ h3;intro he;have h4:=(a8k (id:=id) q (a2g i j (a3f n) (a3w i j r 9) (k+1)) []).2 (.inl hq);rw[he]at h4;simp at h4
theorem c1y (s:Sh)(id x y wt di num i j:Int)(cls name:ByteArray)(w:World)(f0:fits s.ax)(f1:fits s.ay)(hof:ofS s x y=(i,j,true))(hno:num<1\/999<num):
 Calls prog 23 #[shV s,.agg (plC id x y wt di cls name),.int .i64 num] w λe w'=>e= .returned (.tuple #[.slice none 0 0,.bool false])/\Below w.heap.size w w':=by
 obtain⟨ax,ay,st,sw,sh,sg⟩:=s;replace hof:=Lib.hid hof;have hwin:inR 1 num 999=false:=by unfold inR;rcases hno with h|h <;> simp <;> omega
 replace hwin:=Lib.hid hwin;clear hno;go_enter func23,ntmps23;go_wp2_with (first|(go_at_call 62;refine(d6c hof.out _ f0 f1).mono ?_;rintro e w'⟨rfl,hb_⟩;obtain⟨p,rfl⟩:=a0b hb_;clear hb_)|(go_at_call 59;refine(a3o hwin.out _).mono ?_;rintro e w'⟨rfl,rfl⟩)|fail);go_ret2;exact⟨rfl,zC⟩
theorem d6d {base:Nat}{v:Value}{ps:List a0m}(hs:OkS s)(hl:ps.length<=1000)(hon:∀p∈ps,onS s p.1 p.2=true)(h:W.ownsRow base 54 4 v (b3s id ps).length ((b3s id ps).flatMap a2c)):Dts W.heap.size W v (b3s id ps) :=
 b4e h (by have:=a4d id ps;omega) (λd hd=>by
  have h9:=a6c.1 (b5z hon d hd);have w1:=hs.w1;have v1:=hs.h1;try simp only at h9
  exact⟨⟨oM,oM⟩,oM,oM⟩)
end
section
open Go.RowKit Go.Shelf
variable{a:Act}{c:Array Value}{Q:Exit->Act->World->Prop}{b n s:Nat}{o:Oper}{e t:TypeId}{v:Value}{W W' W1 W2 w:World}
structure CT where
 k:Nat
 e:TypeId
abbrev CT.int :CT:=⟨0,0⟩
abbrev CT.str :CT:=⟨1,0⟩
abbrev CT.bool :CT:=⟨2,0⟩
abbrev CT.sl (e:TypeId):CT:=⟨3,e⟩
abbrev CT.any :CT:=⟨4,0⟩
def a2n (t:TypeId):List CT :=
 if t=3 then [.int]
 else if t=26 then [.int,.int]
 else if t=245 then [.int,.int,.int]
 else if t=206 then [.int,.sl 26,.int,.int]
 else if t=249 then [.int,.sl 245,.int,.int]
 else if t=140 then [.int,.str,.str,.int,.int]
 else if t=149 then [.int,.sl 26,.int,.str,.str,.bool,.int,.int]
 else if t=66 then [.int,.int,.int,.str,.any,.int,.int]
 else []
abbrev a7q (t:TypeId):Nat:=(a2n t).length
abbrev BS :=Nat->Prop
def SL (S:BS)(W:World)(e:TypeId)(v:Value)(n:Nat):Prop :=
 ∃a cap,v= .slice a n cap/\n<=cap/\((a=none/\cap=0)\/∃b o c,a=some ⟨b,o*a7q e,none⟩/\S b/\Blk W b c e/\(o+cap)*a7q e<=c.size)
structure CT.ok (S:BS)(W:World)(ct:CT)(v:Value):Prop where
 lt:ct.k<5
 i:ct.k=0->∃x,v= .int .i64 x/\fits x
 s:ct.k=1->∃s:ByteArray,v= .string s/\s.size<=30
 b:ct.k=2->∃b,v= .bool b
 l:ct.k=3->∃n,n<=100/\SL S W ct.e v n
 a:ct.k=4->∃s:ByteArray,v= .string s
theorem CT.ok_int {S:BS}{x:Int}(h:fits x):CT.int.ok S W (.int .i64 x):=⟨jM,λ_=>⟨x,rfl,h⟩,λe=>absurd e jM,λe=>absurd e jM,λe=>absurd e jM,λe=>absurd e jM⟩
theorem CT.ok_str {S:BS}{s:ByteArray}(h:s.size<=30):CT.str.ok S W (.string s):=⟨jM,λe=>absurd e jM,λ_=>⟨s,rfl,h⟩,λe=>absurd e jM,λe=>absurd e jM,λe=>absurd e jM⟩
theorem CT.ok_bool {S:BS}(b:Bool):CT.bool.ok S W (.bool b):=⟨jM,λe=>absurd e jM,λe=>absurd e jM,λ_=>⟨b,rfl⟩,λe=>absurd e jM,λe=>absurd e jM⟩
theorem CT.ok_sl {S:BS}(h:SL S W e v n)(hn:n<=100):(CT.sl e).ok S W v:=⟨by show 3<5;decide,λe=>absurd e (by show ¬3=0;decide),λe=>absurd e (by show ¬3=1;decide),λe=>absurd e (by show ¬3=2;decide),λ_=>⟨n,hn,h⟩,λe=>absurd e (by show ¬3=4;decide)⟩
def TB (S:BS)(W:World)(e:TypeId)(c:Array Value):Prop:=∀(i:Nat) (u:Value) (ct:CT),c[i]? =some u->(a2n e)[i % a7q e]? =some ct->ct.ok S W u
def TW (S:BS)(W:World):Prop:=∀b,S b->∃c e,Blk W b c e/\TB S W e c
def Shp (S:BS)(W W':World):Prop:=∀b c e,S b->Blk W b c e->∃c',Blk W' b c' e/\c'.size=c.size
theorem Shp.refl (S:BS)(W:World):Shp S W W:=λ_ c _ _ h=>⟨c,h,rfl⟩
theorem Shp.trans {S S1:BS}(h1:Shp S W W1)(h2:Shp S1 W1 W2)(hs:∀b,S b->S1 b):Shp S W W2:=λb c e hb hc=>by
 obtain⟨c1,k1,s1⟩:=h1 b c e hb hc;obtain⟨c2,k2,s2⟩:=h2 b c1 e (hs b hb) k1;exact⟨c2,k2,s2.trans s1⟩
theorem SL.mono {S S':BS}(h:SL S W e v n)(hs:∀b,S b->S' b)(hsh:Shp S W W'):SL S' W' e v n:=by
 obtain⟨a,cap,rfl,hn,h|⟨b,o,c,rfl,hb,hc,hl⟩⟩:=h
 ·exact⟨a,cap,rfl,hn,.inl h⟩
 ·obtain⟨c',hc',hz⟩:=hsh b c e hb hc
  exact⟨_,cap,rfl,hn,.inr ⟨b,o,c',rfl,hs b hb,hc',oM⟩⟩
theorem CT.ok.mono {S S':BS}{ct:CT}(h:ct.ok S W v)(hs:∀b,S b->S' b)(hsh:Shp S W W'):ct.ok S' W' v :=
 ⟨h.lt,h.i,h.s,h.b,λe=>by obtain⟨n,hn,h⟩:=h.l e;exact⟨n,hn,h.mono hs hsh⟩,h.a⟩
theorem TB.mono {S S':BS}(h:TB S W e c)(hs:∀b,S b->S' b)(hsh:Shp S W W'):TB S' W' e c:=λi u ct h1 h2=>(h i u ct h1 h2).mono hs hsh
structure Ev (X:BS)(S:BS)(W:World)(S':BS)(W':World):Prop where
 sub:∀b,S b->S' b
 new:∀b,S' b->S b\/W.heap.size<=b
 os:W'.os=W.os
 tape:W'.tape=W.tape
 output:W'.output=W.output
 size:W.heap.size<=W'.heap.size
 rest:∀b,b<W.heap.size->¬S b->¬X b->W'.heap[b]? =W.heap[b]?
 shape:Shp S W W'
 ok:TW S' W'
theorem TW.lt {S:BS}(h:TW S W)(hb:S b):b<W.heap.size:=by
 obtain⟨c,e,hc,-⟩:=h b hb;exact hc.lt
theorem Ev.refl {X S:BS}{W:World}(h:TW S W):Ev X S W S W:=⟨λ_ h=>h,λ_ h=> .inl h,rfl,rfl,rfl,yR _,λ_ _ _ _=>rfl,Shp.refl _ _,h⟩
theorem Ev.trans {X S S1 S2:BS}(h1:Ev X S W S1 W1)(h2:Ev X S1 W1 S2 W2):Ev X S W S2 W2 :=
 ⟨λb h=>h2.sub b (h1.sub b h),λb h=>by
  rcases h2.new b h with h|h
  ·exact h1.new b h
  ·exact .inr (Nat.le_trans h1.size h),h2.os.trans h1.os,h2.tape.trans h1.tape,h2.output.trans h1.output,Nat.le_trans h1.size h2.size,λb hb hn hx=>by
  have hn1:¬S1 b:=λh=>by
   rcases h1.new b h with h|h
   ·exact hn h
   ·omega
  exact(h2.rest b (Nat.lt_of_lt_of_le hb h1.size) hn1 hx).trans (h1.rest b hb hn hx),h1.shape.trans h2.shape h1.sub,h2.ok⟩
theorem Ev.below {X S S':BS}(h:Ev X S W S' W')(hS:∀b,S b->n<=b)(hX:∀b,X b->n<=b)(hn:n<=W.heap.size):Below n W W' :=
 ⟨h.os,h.tape,h.output,h.size,λb hb=>h.rest b oM (λhs=>by have:=hS b hs;omega) (λhs=>by have:=hX b hs;omega)⟩
theorem Ev.sl {X S S':BS}(h:Ev X S W S' W')(hs:SL S W e v n):SL S' W' e v n:=hs.mono h.sub h.shape
theorem Ev.ct {X S S':BS}(h:Ev X S W S' W'){ct:CT}(hs:ct.ok S W v):ct.ok S' W' v:=hs.mono h.sub h.shape
theorem Ev.blk {X S S':BS}(h:Ev X S W S' W')(hb:Blk W b c t)(hn:¬S b)(hx:¬X b):Blk W' b c t:=(h.rest b hb.lt hn hx).trans hb
theorem Ev.not {X S S':BS}(h:Ev X S W S' W')(hb:b<W.heap.size)(hn:¬S b):¬S' b:=λhs=>by
 rcases h.new b hs with h|h
 ·exact hn h
 ·omega
theorem Ev.of_grown {X S:BS}{row:Option Nat}(hT:TW S W)(hg:W.grownBy W' row)(hr:∀r,row=some r->¬S r/\X r):Ev X S W S W':=by
 have hsame:∀b,S b->W'.heap[b]? =W.heap[b]? :=λb hb=>hg.block b (hT.lt hb) (λe=>(hr b e.symm).1 hb)
 have hsh:Shp S W W':=λb c e hb hc=>⟨c,(hsame b hb).trans hc,rfl⟩
 refine⟨λ_ h=>h,λ_ h=> .inl h,hg.os,hg.tape,hg.output,hg.size,λb hb _ hx=>hg.block b hb (λe=>hx (hr b e.symm).2),hsh,λb hb=> ?_⟩;obtain⟨c,e,hc,ht⟩:=hT b hb;exact⟨c,e,(hsame b hb).trans hc,ht.mono (λ_ h=>h) hsh⟩
theorem Ev.of_below {X S:BS}(hT:TW S W)(h:Below W.heap.size W W'):Ev X S W S W':=Ev.of_grown hT (a0s h) (λr e=>by cases e)
theorem Ev.drew {X S:BS}{W:World}(hT:TW S W):Ev X S W S W.drew:=Ev.of_grown hT (b2g W) (λr e=>by cases e)
theorem TW.of_same {S:BS}(hT:TW S W)(h:∀b,S b->W'.heap[b]? =W.heap[b]?):TW S W':=by
 have hsh:Shp S W W':=λb c e hb hc=>⟨c,(h b hb).trans hc,rfl⟩
 intro b hb;obtain⟨c,e,hc,ht⟩:=hT b hb;exact⟨c,e,(h b hb).trans hc,ht.mono (λ_ h=>h) hsh⟩
theorem TW.none (W:World):TW (λ_=>False) W:=λ_ h=>h.elim
theorem Ev.alloc {X S:BS}{W:World}(hT:TW S W){c:Array Value}{e:TypeId}(hc:TB S W e c):Ev X S W (λb=>S b\/b=W.heap.size) (W.alloc (.cells c e)):=by
 have hsh:Shp S W (W.alloc (.cells c e)):=λb c' e' hb hc'=>⟨c',hc'.alloc _,rfl⟩
 refine⟨λ_ h=> .inl h,λb h=>by rcases h with h|rfl;exact .inl h;exact .inr (yR _),rfl,rfl,rfl,by simp,λb hb _ _=>(World.grownBy_alloc W _ none).block b hb vM,hsh,λb hb=> ?_⟩;rcases hb with hb|rfl
 ·obtain⟨c',e',hc',ht⟩:=hT b hb
  exact⟨c',e',hc'.alloc _,ht.mono (λ_ h=> .inl h) hsh⟩
 ·exact⟨c,e,Blk.new W c e,hc.mono (λ_ h=> .inl h) hsh⟩
theorem Ev.set {X S:BS}(hT:TW S W)(hb:S b)(hc:Blk W b c e)(i:Nat)(v:Value)(hv:∀ct,(a2n e)[i % a7q e]? =some ct->ct.ok S W v):Ev X S W S (W.setCell ⟨b,i,none⟩ v):=by
 have hsh:Shp S W (W.setCell ⟨b,i,none⟩ v):=λb' c' e' hb' hc'=>by
  by_cases h:b'=b
  ·subst h
   obtain⟨rfl,rfl⟩:c'=c/\e'=e:=by
    unfold Blk at hc hc';rw[hc]at hc'
    cases hc';exact⟨rfl,rfl⟩
   exact⟨_,hc'.set i v,by simp⟩
  ·exact⟨c',hc'.other h i v,rfl⟩
 refine⟨λ_ h=>h,λ_ h=> .inl h,rfl,rfl,rfl,by simp,λb' _ hn _=>Below.heap_setCell _ _ _ _ (λe=>hn (by simp at e;exact e▸hb)),hsh,λb' hb'=> ?_⟩;by_cases h:b'=b
 ·subst h
  obtain⟨c0,e0,hc0,ht⟩:=hT b' hb';obtain⟨rfl,rfl⟩:c0=c/\e0=e:=by
   exact yhd
  refine⟨_,e0,hc0.set i v,λj u ct h1 h2=> ?_⟩;rw[Array.getElem?_setIfInBounds]at h1;split at h1
  ·rename_i hij
   subst hij;split at h1
   ·cases h1
    exact(hv ct h2).mono (λ_ h=>h) hsh
   ·cases h1
  ·exact(ht j u ct h1 h2).mono (λ_ h=>h) hsh
 ·obtain⟨c0,e0,hc0,ht⟩:=hT b' hb'
  exact⟨c0,e0,hc0.other h i v,ht.mono (λ_ h=>h) hsh⟩
theorem Ev.setCells {X S:BS}{b:Nat}{e:TypeId}(hb:S b):∀(vs:List Value) (o:Nat) (W:World) (c:Array Value),TW S W->Blk W b c e->(∀j u ct,vs[j]? =some u->(a2n e)[(o+j) % a7q e]? =some ct->ct.ok S W u)->Ev X S W S (W.setCells b o vs)
 |[],o,W,c,hT,hc,hv=>Ev.refl hT
 |v::r,o,W,c,hT,hc,hv=>by
  have h1:=Ev.set (X:=X) hT hb hc o v (λct h=>hv 0 v ct rfl (by simpa using h));exact h1.trans (Ev.setCells hb r (o+1) _ _ h1.ok (hc.set o v) (λj u ct h2 h3=>h1.ct (hv (j+1) u ct (by simpa using h2) (by rw[show o+(j+1)=o+1+j from by omega];exact h3))))
structure ET (e:TypeId)(s:Nat):Prop where
 size:a7q e=s
 pos:0<s
 info:∃i z,prog.info? e=some i/\i.zero=some z/\i.size=s/\i.bytes<=1000/\z.cells.size=s/\∀S W (j:Nat) u ct,z.cells[j]? =some u->(a2n e)[j]? =some ct->CT.ok S W ct u
theorem CT.ok.one {S:BS}{ct:CT}{u:Value}(h:ct.ok S W u):u.oneCell'=true:=by
 have hk:=h.lt;rcases(show ct.k=0\/ct.k=1\/ct.k=2\/ct.k=3\/ct.k=4 from oM)with e|e|e|e|e
 ·obtain⟨x,rfl,-⟩:=h.i e;rfl
 ·obtain⟨x,rfl,-⟩:=h.s e;rfl
 ·obtain⟨x,rfl⟩:=h.b e;rfl
 ·obtain⟨n,-,a,cap,rfl,-⟩:=h.l e;rfl
 ·obtain⟨x,rfl⟩:=h.a e;rfl
theorem SL.cells {S:BS}(hT:TW S W)(he:ET e s)(h:SL S W e v n):∃(a:Option Addr) (cap:Nat) (news:List Value),v= .slice a n cap/\n<=cap/\news.length=n*s/\(∀j u,news[j]? =some u->∃ad,a=some ad/\W.cell? (ad.add j)=some u)/\(∀j u ct,news[j]? =some u->(a2n e)[j % s]? =some ct->ct.ok S W u)/\(∀u∈news,u.oneCell'=true)/\(a=none->n=0):=by
 have hs:=he.size;have hp:=he.pos;obtain⟨a,cap,rfl,hn,⟨rfl,rfl⟩|⟨b,o,c,rfl,hb,hc,hl⟩⟩:=h
 ·obtain rfl:n=0:=oM
  exact⟨none,0,[],rfl,yR _,by simp,by simp,by simp,by simp,λ_=>rfl⟩
 ·rw[hs]at hl ⊢
  obtain⟨c0,e0,hc0,ht⟩:=hT b hb;obtain⟨rfl,rfl⟩:c0=c/\e0=e:=by
   exact yhd
  have hle:(o+n)*s<=c0.size:=Nat.le_trans (Nat.mul_le_mul_right s oM) hl;rw[Nat.add_mul]at hle;have hget:∀j u,((c0.toList.drop (o*s)).take (n*s))[j]? =some u->c0[o*s+j]? =some u:=λj u h=>by
   rw[List.getElem?_take]at h;split at h
   ·rw[List.getElem?_drop]at h
    simpa using h
   ·cases h
  have hty:∀j u ct,((c0.toList.drop (o*s)).take (n*s))[j]? =some u->(a2n e0)[j % s]? =some ct->ct.ok S W u:=λj u ct h1 h2 =>
   ht (o*s+j) u ct (hget j u h1) (by rw[hs,Nat.mul_comm,Nat.mul_add_mod];exact h2)
  refine⟨_,cap,(c0.toList.drop (o*s)).take (n*s),rfl,hn,by simp;omega,λj u hj=>⟨_,rfl,?_⟩,hty,λu hu=> ?_,λh=>by cases h⟩
  ·rw[Go.WideShapes.add_plain]
   exact(hc.cell _).trans (hget j u hj)
  ·obtain⟨j,hj,rfl⟩:=List.getElem_of_mem hu
   have hm:j % s<(a2n e0).length:=by rw[show(a2n e0).length=s from hs];exact Nat.mod_lt _ hp
   exact(hty j _ _ (List.getElem?_eq_getElem hj) (List.getElem?_eq_getElem hm)).one
theorem c9b {X S:BS}(hT:TW S W){ty:TypeId}(ht:prog.underlying t=some (.slice e))(he:ET e s){sv xv:Value}{m:Nat}(hv:SL S W e sv n)(hx:SL S W e xv m)(hl:n+m<=1000000):
 ∃v' S' W',(Builtin.append_ #[t,t] ty #[sv,xv]).run prog W= .ok v' W'/\SL S' W' e v' (n+m)/\Ev X S W S' W':=by
 obtain⟨i,z,hi,hz,hsz,hby,hzs,hzt⟩:=he.info;have hp:=he.pos;have hss:=he.size;obtain⟨xa,xc,news,rfl,hxn,hnl,hnc,hnt,hn1,hx0⟩:=hx.cells hT he;have hsrc:Src prog i.size t (.slice xa m xc) m news W:=by
  exact ydq
 have hv':=hv;obtain⟨a,cap,olds,rfl,hnc',hol,hoc,hot,ho1,ha0⟩:=hv.cells hT he;by_cases hroom:n+m<=cap
 ·obtain⟨a2,cap2,h2,-,h3⟩:=hv'
  cases h2;rcases h3 with⟨rfl,rfl⟩|⟨b,o,c,rfl,hb,hc,hcl⟩
  ·obtain rfl:n=0:=oM
   obtain rfl:m=0:=oM;refine⟨.slice none 0 0,S,W,?_,⟨none,0,rfl,yR _,.inl ⟨rfl,rfl⟩⟩,Ev.refl hT⟩;simp[Builtin.append_,run_underlying ht,sizeOf,typeInfo,hi,hsrc.len,hsrc.cells]
  ·rw[hss]at hcl ⊢
   have hmul:(n+m)*s<=cap*s:=Nat.mul_le_mul_right s hroom;rw[Nat.add_mul]at hmul hcl;have hcell:∀j,j<news.length->(W.cell? ⟨b,o*s+n*i.size+j,none⟩).isSome=true:=λj hj=>by
    rw[hc.cell,hsz,Array.getElem?_eq_getElem oM];rfl
   have hr:=run_append_room_src (P:=prog) W t t ty e i ht hi b (o*s) n cap (.slice xa m xc) m news hsrc hroom hcell (λj hj=>hc.frozen _);refine⟨_,S,_,hr,?_,?_⟩
   ·exact ydv
   ·exact yfx
 ·have hold:(Builtin.firstCells i.size n (.slice a n cap)).run prog W.drew= .ok olds.toArray W.drew:=by
   exact ydc
  have hge:=grownCap_ge W (n+m) cap e;have hcap:Builtin.nextslicecap (n+m) cap*i.bytes<=281474976710656:=growslice_fits oM (Nat.le_trans (Nat.mul_le_mul hl hby) jM);have hr:=run_append_grow_src (P:=prog) W t t ty e i z ht hi hz a n cap olds hold (.slice xa m xc) m news hsrc oM oM hcap;have hTd:=(Ev.drew (X:=X) hT).ok;have hdr:=Ev.drew (X:=X) hT;have hB:TB S W.drew e ((olds++news).toArray++Builtin.zeroCells z.cells (grownCap W (n+m) cap e-(n+m))):=by
   exact yap
  have hA:=Ev.alloc (X:=X) hTd hB;refine⟨_,_,_,hr,?_,hdr.trans hA⟩;exact ydy
theorem b0e {X S:BS}(hT:TW S w){K:Act->World->Prop}(sO xO:Operand)(t:TypeId)(ho:o.op= .call { callee:= .builtin .append,args:= #[sO,xO],argTypes:= #[t,t] })
 {e:TypeId} {s:Nat} (ht:prog.underlying t=some (.slice e)) (he:ET e s) {sv xv:Value} {n m:Nat} (hsv:a.eval sO=sv) (hv:SL S w e sv n) (hxv:a.eval xO=xv) (hx:SL S w e xv m) (hl:n+m<=1000000)
 (h:∀v' S' w',SL S' w' e v' (n+m)->Ev X S w S' w'->K (a.put o.dst v') w'):Oper.wp prog o a w K Q:=by
 obtain⟨v',S',w',hr,h2,h3⟩:=c9b (X:=X) hT (ty:=o.type) ht he hv hx hl;unfold Oper.wp execOp;simp only[ho,resolve,invoke,builtin,Sem.run_bind,Sem.run_pure,Result.andThen_ok,List.map_toArray,List.map_cons,List.map_nil,hsv,hxv,hr];exact h v' S' w' h2 h3
theorem a1k {X S:BS}(hT:TW S w){ops:Array Oper}{rest:List Oper}(hgd:o.guard=none)(sO xO:Operand)(t:TypeId)(ho:o.op= .call { callee:= .builtin .append,args:= #[sO,xO],argTypes:= #[t,t] })
 {e:TypeId} {s:Nat} (ht:prog.underlying t=some (.slice e)) (he:ET e s) {sv xv:Value} {n m:Nat} (hsv:a.eval sO=sv) (hv:SL S w e sv n) (hxv:a.eval xO=xv) (hx:SL S w e xv m) (hl:n+m<=1000000)
 (h:∀v' S' w',SL S' w' e v' (n+m)->Ev X S w S' w'->wpList prog ops Q rest (a.put o.dst v') w'):wpList prog ops Q (o::rest) a w :=
 wpList_plain hgd λ_ hK=>b0e hT sO xO t ho ht he hsv hv hxv hx hl λv' S' w' h2 h3=>hK _ _ (h v' S' w' h2 h3)
end
section
open Go.RowKit Go.Shelf
attribute [local go_sem] Oper.semAt_some
variable{c:Array Value}{S X:BS}{id l r x:Int}{xs:List Int}{D b cap k n n₀ off s:Nat}{e:TypeId}{sv v z:Value}{W:World}
def zOk (ct:CT)(u:Value):Bool :=
 match u with
 |.int .i64 n=>ct.k==0&&n==0
 |.string s=>(ct.k==1||ct.k==4)&&s.size==0
 |.bool _=>ct.k==2
 |.slice none 0 0=>ct.k==3
 |_=>false
theorem d7x {ct:CT}{u:Value}(h:zOk ct u=true)(S:BS)(W:World):ct.ok S W u:=by
 obtain⟨k,e⟩:=ct;unfold zOk at h;split at h
 ·simp only[Bool.and_eq_true,beq_iff_eq]at h
  obtain⟨rfl,rfl⟩:=h;exact⟨by simp,λ_=>⟨0,rfl,⟨jM,jM⟩⟩,λe=>by simp at e,λe=>by simp at e,λe=>by simp at e,λe=>by simp at e⟩
 ·rename_i s
  simp only[Bool.and_eq_true,Bool.or_eq_true,beq_iff_eq]at h;obtain⟨rfl|rfl,h⟩:=h
  ·exact⟨by simp,λe=>by simp at e,λ_=>⟨s,rfl,oM⟩,λe=>by simp at e,λe=>by simp at e,λe=>by simp at e⟩
  ·exact⟨by simp,λe=>by simp at e,λe=>by simp at e,λe=>by simp at e,λe=>by simp at e,λ_=>⟨s,rfl⟩⟩
 ·rename_i b
  simp only[beq_iff_eq]at h;subst h;exact⟨by simp,λe=>by simp at e,λe=>by simp at e,λ_=>⟨b,rfl⟩,λe=>by simp at e,λe=>by simp at e⟩
 ·simp only[beq_iff_eq]at h
  subst h;exact⟨by simp,λe=>by simp at e,λe=>by simp at e,λe=>by simp at e,λ_=>⟨0,oM,none,0,rfl,yR _,.inl ⟨rfl,rfl⟩⟩,λe=>by simp at e⟩
 ·cases h
def e0t (e:TypeId)(z:Value):Bool:=(List.range (a7q e)).all λj=>match z.cells[j]?,(a2n e)[j]? with|some u,some ct=>zOk ct u|_,_=>false
theorem d6e (h:e0t e z=true)(S:BS)(W:World)(j:Nat)(u:Value)(ct:CT)(h1:z.cells[j]? =some u)(h2:(a2n e)[j]? =some ct):ct.ok S W u:=by
 have hj:j<a7q e:=(List.getElem?_eq_some_iff.1 h2).1;have h3:=List.all_eq_true.1 h j (List.mem_range.2 hj);rw[h1,h2]at h3;exact d7x h3 S W
theorem c1z {bytes:Nat}(h:(prog.info? e).map (λi=>(i.zero,i.size,i.bytes))=some (some z,s,bytes))(h1:a7q e=s)(h2:0<s)(h3:bytes<=1000)(h4:z.cells.size=s)(h5:e0t e z=true):ET e s:=by
 obtain⟨i,hi,hz,hs,hb⟩:=info_parts h;exact⟨h1,h2,i,z,hi,hz,hs,oM,h4,d6e h5⟩
abbrev edZ :Array Value:= #[.int .i64 0,.slice none 0 0,.int .i64 0,.int .i64 0]
abbrev faZ :Array Value:= #[.int .i64 0,.string ⟨#[]⟩,.string ⟨#[]⟩,.int .i64 0,.int .i64 0]
abbrev e1f :Array Value:= #[.int .i64 0,.slice none 0 0,.int .i64 0,.string ⟨#[]⟩,.string ⟨#[]⟩,.bool false,.int .i64 0,.int .i64 0]
theorem a7j:ET 3 1:=c1z (z:= .int .i64 0) (bytes:=8) zM rfl oM oM rfl zM
theorem a1s:ET 26 2:=c1z (z:= .agg #[.int .i64 0,.int .i64 0]) (bytes:=16) zM rfl oM oM rfl zM
theorem b6a:ET 245 3:=c1z (z:= .agg #[.int .i64 0,.int .i64 0,.int .i64 0]) (bytes:=24) zM rfl oM oM rfl zM
theorem a1y:ET 206 4:=c1z (z:= .agg edZ) (bytes:=48) zM rfl oM oM rfl zM
theorem a8m:ET 249 4:=c1z (z:= .agg edZ) (bytes:=48) zM rfl oM oM rfl zM
theorem a1l:ET 140 5:=c1z (z:= .agg faZ) (bytes:=56) zM rfl oM oM rfl zM
theorem a4e:ET 149 8:=c1z (z:= .agg e1f) (bytes:=96) zM rfl oM oM rfl zM
theorem SL.nil (S:BS)(W:World)(e:TypeId):SL S W e (.slice none 0 0) 0:=⟨none,0,rfl,yR _,.inl ⟨rfl,rfl⟩⟩
theorem SL.blk (hb:S b)(hc:Blk W b c e)(hn:n*a7q e<=c.size):SL S W e (.slice (some ⟨b,0,none⟩) n n) n :=
 ⟨_,n,rfl,yR _,.inr ⟨b,0,c,by rw[Nat.zero_mul],hb,hc,by rw[Nat.zero_add];exact hn⟩⟩
theorem SL.some_ (h:SL S W e v n)(hn:0<n):∃b off cap,v= .slice (some ⟨b,off,none⟩) n cap/\n<=cap/\S b:=by
 obtain⟨a,cap,rfl,h1,⟨rfl,rfl⟩|⟨b,o,c,rfl,hb,-,-⟩⟩:=h
 ·omega
 ·exact⟨b,_,cap,rfl,h1,hb⟩
theorem SL.form (h:SL S W e v n):∃a cap,v= .slice a n cap/\n<=cap:=by
 obtain⟨a,cap,rfl,h1,-⟩:=h;exact⟨a,cap,rfl,h1⟩
theorem SL.cell (hT:TW S W)(he:ET e s)(h:SL S W e (.slice (some ⟨b,off,none⟩) n cap) n)(hk:k<n)(i:Nat)(ct:CT)(hct:(a2n e)[i]? =some ct):
 ∃u,W.cell? ⟨b,off+k*s+i,none⟩=some u/\ct.ok S W u:=by
 obtain⟨a,cap',h0,h1,⟨rfl,rfl⟩|⟨b',o,c,rfl,hb,hc,hl⟩⟩:=h
 ·simp at h0
 ·simp only[Value.slice.injEq,Option.some.injEq,Addr.mk.injEq,and_true,true_and]at h0
  obtain⟨⟨rfl,rfl⟩,rfl⟩:=h0;have hs:=he.size;rw[hs]at hl ⊢;obtain⟨c0,e0,hc0,ht⟩:=hT b hb;obtain⟨rfl,rfl⟩:c0=c/\e0=e:=by
   exact yhd
  have hi:i<s:=by rw[<-hs];exact(List.getElem?_eq_some_iff.1 hct).1
  have hle:(o+k+1)*s<=(o+cap)*s:=Nat.mul_le_mul_right s oM;rw[Nat.add_mul,Nat.add_mul,Nat.one_mul]at hle;have hlt:o*s+k*s+i<c0.size:=oM;refine⟨c0[o*s+k*s+i],?_,?_⟩
  ·rw[hc.cell,Array.getElem?_eq_getElem hlt]
  ·refine ht (o*s+k*s+i) _ ct (Array.getElem?_eq_getElem hlt) ?_
   rw[hs,<-Nat.add_mul,Nat.mul_comm,Nat.mul_add_mod,Nat.mod_eq_of_lt hi];exact hct
theorem SL.store (hT:TW S W)(he:ET e s)(h:SL S W e (.slice (some ⟨b,off,none⟩) n cap) n)(k:Nat)(i:Nat)(ct:CT)(hct:(a2n e)[i]? =some ct)(v:Value)(hv:ct.ok S W v):
 Ev X S W S (W.setCell ⟨b,off+k*s+i,none⟩ v)/\W.frozen? ⟨b,off+k*s+i,none⟩=false:=by
 obtain⟨a,cap',h0,h1,⟨rfl,rfl⟩|⟨b',o,c,rfl,hb,hc,hl⟩⟩:=h
 ·simp at h0
 ·simp only[Value.slice.injEq,Option.some.injEq,Addr.mk.injEq,and_true,true_and]at h0
  obtain⟨⟨rfl,rfl⟩,rfl⟩:=h0;have hs:=he.size;have hi:i<s:=by rw[<-hs];exact(List.getElem?_eq_some_iff.1 hct).1
  refine⟨Ev.set hT hb hc _ v (λct' h=> ?_),hc.frozen _⟩;rw[hs,<-Nat.add_mul,Nat.mul_comm,Nat.mul_add_mod,Nat.mod_eq_of_lt hi,hct]at h
  cases h;exact hv
theorem SL.take {a:Option Addr}(h:SL S W e (.slice a n cap) n)(hk:k<=n):SL S W e (.slice a k cap) k:=by
 obtain⟨a',cap',h0,h1,h2⟩:=h
 cases h0;exact⟨a,cap,rfl,oM,h2⟩
theorem SL.drop {o2:Nat}(hs:a7q e=s)(h:SL S W e (.slice (some ⟨b,off,none⟩) n cap) n)(hk:k<=n)(ho:o2=off+k*s\/(k=cap/\o2=off)):SL S W e (.slice (some ⟨b,o2,none⟩) (n-k) (cap-k)) (n-k):=by
 obtain⟨a',cap',h0,h1,⟨rfl,rfl⟩|⟨b',o,c,rfl,hb,hc,hl⟩⟩:=h
 ·simp at h0
 ·simp only[Value.slice.injEq,Option.some.injEq,Addr.mk.injEq,and_true,true_and]at h0
  obtain⟨⟨rfl,rfl⟩,rfl⟩:=h0;rw[hs]at hl;rcases ho with rfl|⟨rfl,rfl⟩
  ·exact⟨_,_,rfl,oM,.inr ⟨b,o+k,c,by rw[hs,Nat.add_mul],hb,hc,by rw[hs,show o+k+(cap-k)=o+cap from by omega];exact hl⟩⟩
  ·exact⟨_,_,rfl,oM,.inr ⟨b,o,c,by rw[hs],hb,hc,by rw[hs,Nat.sub_self,Nat.add_zero];exact Nat.le_trans (Nat.mul_le_mul_right s oM) hl⟩⟩
theorem c2a (he:a7q e=s)(hc:c.size=s)(h:∀(i:Nat)(u:Value)(ct:CT),c[i]? =some u->(a2n e)[i]? =some ct->ct.ok S W u):TB S W e c:=λi u ct h1 h2=>by
 have hi:i<s:=by rw[<-hc];exact(Array.getElem?_eq_some_iff.1 h1).1
 rw[he,Nat.mod_eq_of_lt hi]at h2;exact h i u ct h1 h2
theorem a5m {y:Int}(hx:fits x)(hy:fits y):TB S W 26 #[.int .i64 x,.int .i64 y]:=c2a rfl rfl λi u ct h1 h2=>by
 match i,h1,h2 with
 |0,h1,h2=>cases h1;cases h2;exact CT.ok_int hx
 |1,h1,h2=>cases h1;cases h2;exact CT.ok_int hy
 |i+2,h1,_=>simp at h1
theorem d7y (hx:fits x):TB S W 3 #[.int .i64 x]:=c2a rfl rfl λi u ct h1 h2=>by
 match i,h1,h2 with
 |0,h1,h2=>cases h1;cases h2;exact CT.ok_int hx
 |i+1,h1,_=>simp at h1
theorem c4q:TB S W e #[]:=λi u ct h1 _=>by simp at h1
theorem b2q (hi:fits id)(hl:fits l)(hr:fits r)(hv:SL S W 26 v n)(hn:n<=100):TB S W 206 #[.int .i64 id,v,.int .i64 l,.int .i64 r]:=c2a rfl rfl λi u ct h1 h2=>by
 exact yeq
theorem d2n (hi:fits id)(hl:fits l)(hr:fits r)(hv:SL S W 245 v n)(hn:n<=100):TB S W 249 #[.int .i64 id,v,.int .i64 l,.int .i64 r]:=c2a rfl rfl λi u ct h1 h2=>by
 exact yeq
def b6b (n:Nat):Prop:=n<=9223372036854775807
structure TD (S:BS)(n₀ D:Nat)(sv:Value)(xs:List Int)(W:World):Prop where
 tw:TW S W
 box:∃j:Nat,j<=xs.length/\Blk W D #[sv,.int .i64 (j:Nat)] 137
 ints:Ints n₀ W sv xs
 le:n₀<=D
 len:b6b xs.length
 low:∀b,S b->n₀<=b
 not:¬S D
abbrev b0f (D:Nat):BS:=λb=>b=D
theorem TD.lt (h:TD S n₀ D sv xs W):D<W.heap.size:=by obtain⟨j,-,hb⟩:=h.box;exact hb.lt
theorem TD.ev {S':BS}{W':World}(h:TD S n₀ D sv xs W)(he:Ev X S W S' W')(hX:∀b,X b->n₀<=b/\b≠D):TD S' n₀ D sv xs W':=by
 have hlt:=h.lt;obtain⟨j,hj,hb⟩:=h.box;have hlow:∀b,S' b->n₀<=b:=λb hb=>by
  rcases he.new b hb with h1|h1
  ·exact h.low b h1
  ·have:=h.le;omega
 have hbel:Below n₀ W W':=he.below h.low (λb hb=>(hX b hb).1) (by have:=h.le;omega);exact⟨he.ok,⟨j,hj,he.blk hb h.not (λhx=>(hX D hx).2 rfl)⟩,h.ints.below hbel,h.le,h.len,hlow,he.not hlt h.not⟩
theorem c9c (n₀ D j:Nat)(xs:List Int)(sv:Value)(m v:Int)(w:World)(hv:c1p xs j m=v)(hm1:1<=m)(hm2:m<=4611686018427387904)(hD:n₀<=D)(hI:Ints n₀ w sv xs)(hj:j<=xs.length)(hlen:b6b xs.length)(hB:Blk w D #[sv,.int .i64 (j:Nat)] 137):
 Calls prog 73 #[.pointer (some ⟨D,0,none⟩),.int .i64 m] w λe w'=>∃p,e= .returned (.int .i64 v)/\w'=(w.setCell ⟨D,1,none⟩ (.int .i64 (min (j+1) xs.length:Nat))).growBy p:=by
 subst hv;by_cases hlt:j<xs.length
 ·rw[show min (j+1) xs.length=j+1 from by omega]
  have c0:w.cell? ⟨D,0,none⟩=some sv:=hB.cell 0;have c1:w.cell? ⟨D,1,none⟩=some (.int .i64 (j:Nat)):=hB.cell 1;have f1:=hB.frozen 1;obtain⟨a,cap,rfl,hc⟩:=hI;obtain⟨b,off,rfl,hb,fx,cx⟩:=hc j hlt;have hx:c1p xs j m=xs[j] % m:=by unfold c1p;rw[List.getD_eq_getElem?_getD,List.getElem?_eq_getElem hlt];rfl
  rw[hx];obtain⟨x,hxx⟩:=zE (xs[j]);rw[hxx]at fx cx ⊢;have hbD:¬b=D:=oM;have hDb:¬D=b:=oM;have hlt':(j:Int)<(xs.length:Int):=oM;have hjw:IntKind.i64.wrap ((j:Int)+1)=(j:Int)+1:=by unfold b6b at hlen;exact a0k oM oM
  have hjv:wrap64 ((j:Int)+1)=(j:Int)+1:=by unfold b6b at hlen;exact Go.IntWalk.wrap64_in _ ⟨oM,oM⟩
  clear hc hxx hx hj;go_enter func73,ntmps73;go_wp2_with fail;first|with_reducible refine a0e zM zM ?_|with_reducible refine a0g zM zM ?_
  repeat(first|go_big_quiet_step (fail)|quiet_step (fail))
  refine wpQuiet_nil ?_;intro _ hw_;obtain⟨p,hw_⟩:=hw_;subst hw_;go_wp2_with fail;have hju:wrap64 (j:Int)=(j:Int):=by unfold b6b at hlen;exact Go.IntWalk.wrap64_in _ ⟨oM,oM⟩
  clear hlen;first|with_reducible refine a0e zM zM ?_|with_reducible refine a0g zM zM ?_
  repeat(first|go_big_quiet_step ((go_at_call 77;exact Calls.grow_of_same (a5j _ _ _ fx hm1 hm2)))|quiet_step ((go_at_call 77;exact Calls.grow_of_same (a5j _ _ _ fx hm1 hm2))))
  refine wpQuiet_nil ?_;intro _ hw_;obtain⟨p,hw_⟩:=hw_;subst hw_;go_wp2_with fail;go_ret;exact⟨_,rfl,rfl⟩
 ·obtain rfl:j=xs.length:=oM
  rw[show min (xs.length+1) xs.length=xs.length from by omega];have c0:w.cell? ⟨D,0,none⟩=some sv:=hB.cell 0;have c1:w.cell? ⟨D,1,none⟩=some (.int .i64 (xs.length:Nat)):=hB.cell 1;have f1:=hB.frozen 1;have hid:=World.setCell_id w D 1 _ c1;have hz:c1p xs xs.length m=0:=by unfold c1p;rw[List.getD_eq_getElem?_getD,List.getElem?_eq_none oM];simp
  rw[hz];have hge':¬(xs.length:Int)<(xs.length:Int):=oM;obtain⟨a,cap,rfl,-⟩:=hI;clear hz hlen hj;go_enter func73,ntmps73;go_wp2_with fail;first|with_reducible refine a0e zM zM ?_|with_reducible refine a0g zM zM ?_
  repeat(first|go_big_quiet_step (fail)|quiet_step (fail))
  refine wpQuiet_nil ?_;intro _ hw_;obtain⟨p,hw_⟩:=hw_;subst hw_;go_wp2_with fail;go_ret;exact⟨_,rfl,by rw[hid]⟩
theorem TD.call (h:TD S n₀ D sv xs W)(m:Int)(hm1:1<=m)(hm2:m<=4611686018427387904):
 Calls prog 73 #[.pointer (some ⟨D,0,none⟩),.int .i64 m] W λe W'=>∃v,e= .returned (.int .i64 v)/\0<=v/\v<m/\TD S n₀ D sv xs W'/\W.grownBy W' (some D)/\Ev (b0f D) S W S W':=by
 obtain⟨j,hj,hb⟩:=h.box;refine(c9c n₀ D j xs sv m _ W rfl hm1 hm2 h.le h.ints hj h.len hb).mono ?_;rintro e W'⟨p,rfl,rfl⟩;have hg:=b5u W D 1 (.int .i64 (min (j+1) xs.length:Nat)) p;have hn:=d2g xs j hm1;have hE:Ev (b0f D) S W S _:=Ev.of_grown h.tw hg (λr e=>by cases e;exact⟨h.not,rfl⟩);refine⟨_,rfl,hn.1,hn.2,⟨hE.ok,⟨min (j+1) xs.length,oM,?_⟩,h.ints.below (Below.of_grown hg (by have:=h.le;have:=hb.lt;omega) (λr e=>by cases e;exact h.le)),h.le,h.len,h.low,h.not⟩,hg,hE⟩;have:=(hb.set 1 (.int .i64 (min (j+1) xs.length:Nat))).grow p;simpa using this
end
section
open Go Go.RowKit Go.Shelf
section
variable {α:Type}{E:El α}{P:Program}{st:TypeId}
end
theorem b9a {W:World}{base Z:Nat}{t:TypeId}{s:Nat}(h:Blk W Z #[] t)(hb:base<=Z):W.ownsRow base t s (.slice (some ⟨Z,0,none⟩) 0 0) 0 []:=⟨by simp,.inr ⟨Z,0,#[],rfl,hb,h,yR _,by unfold maxLen;omega,by simp,by simp⟩⟩
theorem Lst.drop {α:Type}{E:El α}{n₀:Nat}{W:World}{b off cap:Nat}{l:List α}(h:Lst E n₀ W (.slice (some ⟨b,off,none⟩) l.length cap) l)(k:Nat)(hk:k<=l.length):Lst E n₀ W (.slice (some ⟨b,off+k*E.s,none⟩) (l.length-k) (cap-k)) (l.drop k):=by
 obtain⟨a',cap',e,h1,h2,h3⟩:=h
 cases e;refine⟨_,_,by rw[List.length_drop],by rw[List.length_drop];omega,by rw[List.length_drop];omega,λj hj=> ?_⟩;rw[List.length_drop]at hj;obtain⟨b',off',e2,hlt,hc⟩:=h3 (k+j) oM;simp only[Option.some.injEq,Addr.mk.injEq,and_true]at e2;obtain⟨rfl,rfl⟩:=e2;refine⟨b,off+k*E.s,rfl,hlt,λi hi=> ?_⟩;rw[List.getElem_drop,<-hc i hi];rw[Nat.add_mul,Nat.add_assoc off,Nat.add_assoc off]
end
section
open Go.RowKit Go.Shelf
section
variable {P:Program}
theorem b9b {W:World}{B:Nat}{c:Array Value}{t:TypeId}(h:Blk W B c t)(cs:Array Value):Blk (W.setRow B cs) B cs t/\W.grownBy (W.setRow B cs) (some B) :=
 ⟨setRow_heap W B c cs t (0,0) h,rfl,rfl,rfl,by simp[World.setRow],λk _ hk=>setRow_other W B k _ (λe=>hk (by rw[e]))⟩
theorem a2q {ops:Array Oper}{rest:List Oper}{o:Oper}{a:Act}{w:World}{Q:Exit->Act->World->Prop}(hgd:o.guard=none)(ty:TypeId)(x y:Operand)(ho:o.op= .store ty x y)
 (B:Nat) (cs:Array Value) (hx:a.eval x= .pointer (some ⟨B,0,none⟩)) (hy:a.eval y= .agg cs) (t:TypeId) (old:Array Value) (hB:Blk w B old t) (hi:(P.info? ty).map (·.size)=some cs.size)
 (hold:old.size=cs.size) (h1:cs.all (·.oneCell')=true) (h:∀w',Blk w' B cs t->w.grownBy w' (some B)->wpList P ops Q rest (a.put o.dst undef) w'):wpList P ops Q (o::rest) a w :=
 wpList_plain hgd λ_ hK=>by
  obtain⟨k1,k2⟩:=b9b hB cs;exact wp_store_row ty x y ho B cs hx hy t old hB hi hold h1 (hK _ _ (h _ k1 k2))
end
end
section
open Go.RowKit Go.Shelf
attribute [local go_sem] Oper.semAt_some
attribute [local go_sem ↓] Go.wp_at_zero Go.wp_at_succ
abbrev noB :BS:=λ_=>False
theorem Ev.more {X Y S S':BS}{W W':World}(h:Ev X S W S' W')(hXY:∀b,X b->Y b):Ev Y S W S' W' :=
 ⟨h.sub,h.new,h.os,h.tape,h.output,h.size,λb hb hn hy=>h.rest b hb hn (λhx=>hy (hXY b hx)),h.shape,h.ok⟩
theorem Ev.any {Y S S':BS}{W W':World}(h:Ev noB S W S' W'):Ev Y S W S' W':=h.more (λ_ h=>h.elim)
theorem Ev.own {X S S1:BS}{W W1 W2:World}{row:Option Nat}(h:Ev X S W S1 W1)(hg:W1.grownBy W2 row)(hr:∀r,row=some r->¬S1 r/\W.heap.size<=r):Ev X S W S1 W2:=by
 have h2:TW S1 W2:=h.ok.of_same (λb hb=>hg.block b (h.ok.lt hb) (λe=>(hr b e.symm).1 hb));exact⟨h.sub,h.new,hg.os.trans h.os,hg.tape.trans h.tape,hg.output.trans h.output,Nat.le_trans h.size hg.size,λb hb hn hx=>(hg.block b (Nat.lt_of_lt_of_le hb h.size) (λe=>by have:=(hr b e.symm).2;omega)).trans (h.rest b hb hn hx),λb c e hb hc=>by
  obtain⟨c',hc',hz⟩:=h.shape b c e hb hc;exact⟨c',(hg.block b hc'.lt (λe=>(hr b e.symm).1 (h.sub b hb))).trans hc',hz⟩,h2⟩
structure ST (n₀ D:Nat)(sv:Value)(xs:List Int)(S0:BS)(W0:World)(S:BS)(W:World):Prop where
 td:TD S n₀ D sv xs W
 ev:Ev (b0f D) S0 W0 S W
 lo:n₀<=W0.heap.size
theorem a0x (W:World)(b i:Nat)(v:Value):W.grownBy (W.setCell ⟨b,i,none⟩ v) (some b) :=
 ⟨rfl,rfl,rfl,by simp,λk hk hne=>Below.heap_setCell _ _ _ _ (λe=>hne (by rw[e]))⟩
section
variable {n₀ D:Nat}{sv:Value}{xs:List Int}{S0 S S':BS}{W0 W W':World}
theorem TD.st (h:TD S n₀ D sv xs W):ST n₀ D sv xs S W S W:=⟨h,Ev.refl h.tw,by have:=h.lt;have:=h.le;omega⟩
theorem ST.evo (h:ST n₀ D sv xs S0 W0 S W)(he:Ev noB S W S' W'):ST n₀ D sv xs S0 W0 S' W':=⟨h.td.ev he (λ_ h=>h.elim),h.ev.trans he.any,h.lo⟩
theorem ST.up (h:ST n₀ D sv xs S0 W0 S W)(hb:Below W.heap.size W W'):ST n₀ D sv xs S0 W0 S W':=h.evo (Ev.of_below h.td.tw hb)
theorem ST.alloc (h:ST n₀ D sv xs S0 W0 S W)(o:Obj):ST n₀ D sv xs S0 W0 S (W.alloc o):=h.up ((zR _ _).alloc (yR _) _)
theorem ST.allocT (h:ST n₀ D sv xs S0 W0 S W){c:Array Value}{e:TypeId}(hc:TB S W e c):ST n₀ D sv xs S0 W0 (λb=>S b\/b=W.heap.size) (W.alloc (.cells c e)):=h.evo (Ev.alloc h.td.tw hc)
theorem ST.call (h:ST n₀ D sv xs S0 W0 S W)(m:Int)(hm1:1<=m)(hm2:m<=4611686018427387904) :
 Calls prog 73 #[.pointer (some ⟨D,0,none⟩),.int .i64 m] W λe W'=>∃v,e= .returned (.int .i64 v)/\0<=v/\v<m/\ST n₀ D sv xs S0 W0 S W'/\W.grownBy W' (some D)/\Ev (b0f D) S W S W':=by
 refine(h.td.call m hm1 hm2).mono ?_;rintro e W'⟨v,rfl,h0,h1,h2,hg,h3⟩;exact⟨v,rfl,h0,h1,⟨h2,h.ev.trans h3,h.lo⟩,hg,h3⟩
theorem ST.then_ (h:ST n₀ D sv xs S0 W0 S W)(h1:TD S' n₀ D sv xs W')(h2:Ev (b0f D) S W S' W'):ST n₀ D sv xs S0 W0 S' W':=⟨h1,h.ev.trans h2,h.lo⟩
theorem ST.own (h:ST n₀ D sv xs S0 W0 S W){r:Nat}(hr:W0.heap.size<=r)(hS:¬S r)(hD:r≠D)(i:Nat)(v:Value):ST n₀ D sv xs S0 W0 S (W.setCell ⟨r,i,none⟩ v):=by
 have hg:=a0x W r i v;have hlt:=h.td.lt;obtain⟨j,hj,hb⟩:=h.td.box;have he:=h.ev.own hg (λq e=>by cases e;exact⟨hS,hr⟩);have hlo:=h.lo;exact⟨⟨he.ok,⟨j,hj,hb.kept hg (λe=>hD (Option.some.inj e))⟩,h.td.ints.below (Below.of_grown hg (by have:=h.td.le;omega) (λq e=>by cases e;omega)),h.td.le,h.td.len,h.td.low,h.td.not⟩,he,h.lo⟩
theorem ST.blk0 (h:ST n₀ D sv xs S0 W0 S W){b:Nat}{c:Array Value}{t:TypeId}(hb:Blk W0 b c t)(hn:¬S0 b)(hD:b≠D):Blk W b c t/\¬S b:=⟨h.ev.blk hb hn hD,h.ev.not hb.lt hn⟩
end
theorem pt2 {W:World}{b:Nat}{x y:Int}{t:TypeId}(h:Blk W b #[.int .i64 x,.int .i64 y] t):W.cell? ⟨b,0,none⟩=some (.int .i64 x)/\W.cell? ⟨b,1,none⟩=some (.int .i64 y)/\W.frozen? ⟨b,0,none⟩=false/\W.frozen? ⟨b,1,none⟩=false:=⟨h.cell 0,h.cell 1,h.frozen 0,h.frozen 1⟩
theorem a0y {S:BS}{W:World}(hT:TW S W){ops:Array Oper}{rest:List Oper}{o:Oper}{a:Act}{Q:Exit->Act->World->Prop}(hgd:o.guard=none)(sO xO:Operand)(t:TypeId)(ho:o.op= .call { callee:= .builtin .append,args:= #[sO,xO],argTypes:= #[t,t] })
 {e:TypeId} {s:Nat} (ht:prog.underlying t=some (.slice e)) (he:ET e s) {v:Value} {n:Nat} (hsv:a.eval sO=v) (hv:SL S W e v n) {H:Nat} (hxv:a.eval xO= .slice (some ⟨H,0,none⟩) 1 1) (hH:W.heap.size=H) {c:Array Value} (hc:TB S W e c) (hcs:c.size=s) (hl:n<=1000)
 (h:∀v' S' w',SL S' w' e v' (n+1)->Ev noB S W S' w'->wpList prog ops Q rest (a.put o.dst v') w'):wpList prog ops Q (o::rest) a (W.alloc (.cells c e)):=by
 subst hH;have hA:=Ev.alloc (X:=noB) hT hc;refine a1k (X:=noB) hA.ok hgd sO xO t ho ht he hsv (hA.sl hv) hxv (SL.blk (.inr rfl) (Blk.new W c e) (by rw[he.size,hcs,Nat.one_mul];exact yR _)) oM λv' S' w' h1 h2=>h v' S' w' h1 (hA.trans h2)
theorem d9u (ax ay bx by_:Int)(w:World):Calls prog 163 #[.agg #[.int .i64 ax,.int .i64 ay],.agg #[.int .i64 bx,.int .i64 by_]] w λe w'=>(∃x y,e= .returned (.agg #[.int .i64 x,.int .i64 y])/\fits x/\fits y)/\Below w.heap.size w w':=by
 go_enter func163,ntmps163;go_wp2_with fail;have hk:=Blk.new ((w.alloc (.cells #[.int .i64 ax,.int .i64 ay] 26)).alloc (.cells #[.int .i64 bx,.int .i64 by_] 26)) #[.int .i64 (wrap64 (ax-bx)),.int .i64 (wrap64 (ay-by_))] 26;simp only[World.size_alloc]at hk;exact yhg
theorem Shp.set {S:BS}{W:World}{B:Nat}(h:¬S B)(i:Nat)(v:Value):Shp S W (W.setCell ⟨B,i,none⟩ v):=λb c e hb hc=>⟨c,hc.other (λq=>h (by subst q;exact hb)) i v,rfl⟩
structure WG7 (wr:World)(B3 BU:Nat)(ax ay ux uy:Int)(W:World):Prop where
 b:Below wr.heap.size wr W
 a:Blk W B3 #[.int .i64 ax,.int .i64 ay] 26
 u:Blk W BU #[.int .i64 ux,.int .i64 uy] 26
theorem WG7.up {wr:World}{B3 BU:Nat}{ax ay ux uy:Int}{W W':World}(h:WG7 wr B3 BU ax ay ux uy W)(hb:Below W.heap.size W W'):WG7 wr B3 BU ax ay ux uy W':=⟨h.b.trans (hb.mono h.b.size),h.a.below hb h.a.lt,h.u.below hb h.u.lt⟩
def FWg (wr:World)(B3 BU k M:Nat)(ax ay ux uy:Int)(i:Nat)(v:Value)(w:World):Prop :=
 match i with
 |0=>v= .pointer (some ⟨B3,0,none⟩)
 |1=>v= .int .i64 ax
 |2=>v= .pointer (some ⟨BU,0,none⟩)
 |3=>v= .int .i64 ux
 |4=>v= .int .i64 (k:Nat)
 |5=>∃x,v= .int .i64 x/\fits x
 |6=>v= .int .i64 (M:Nat)
 |7=>v= .int .i64 ((M:Nat)+1)
 |8=>∃x,v= .int .i64 x/\fits x
 |9=>∃x,v= .int .i64 x/\fits x
 |10=>v= .pointer (some ⟨B3,1,none⟩)
 |11=>v= .int .i64 ay
 |12=>v= .pointer (some ⟨BU,1,none⟩)
 |13=>v= .int .i64 uy
 |14=>v= .int .i64 (k:Nat)
 |15=>∃x,v= .int .i64 x/\fits x
 |16=>v= .int .i64 (M:Nat)
 |17=>v= .int .i64 ((M:Nat)+1)
 |18=>∃x,v= .int .i64 x/\fits x
 |19=>∃x,v= .int .i64 x/\fits x
 |20=>∃X Y,v= .agg #[.int .i64 X,.int .i64 Y]/\fits X/\fits Y
 |21=>∃B,v= .pointer (some ⟨B,0,none⟩)/\wr.heap.size<=B/\Blk w B #[.int .i64 0,.int .i64 0] 26
 |_=>False
theorem FWg.kept {wr:World}{B3 BU k M:Nat}{ax ay ux uy:Int}{i:Nat}{v:Value}{w w':World}(h:FWg wr B3 BU k M ax ay ux uy i v w)(hg:Below w.heap.size w w'):FWg wr B3 BU k M ax ay ux uy i v w':=by
 unfold FWg at *;exact yil
theorem c5u (n₀ D:Nat)(sv:Value)(xs:List Int)(S:BS)(w:World)(h:TD S n₀ D sv xs w)(ax ay bx by_:Int)(fa:fits ax)(fb:fits ay)(fc:fits bx)(fd:fits by_) :
 Calls prog 127 #[.agg #[.int .i64 ax,.int .i64 ay],.agg #[.int .i64 bx,.int .i64 by_],.pointer (some ⟨D,0,none⟩)] w λe w'=>∃S' v n,e= .returned v/\SL S' w' 26 v n/\n<=6/\TD S' n₀ D sv xs w'/\Ev (b0f D) S w S' w':=by
 have hlt:=λb hb=>h.tw.lt (b:=b) hb
 have hDl:=h.lt;go_enter func127,ntmps127;go_upto_region 2 with fail;refine a0n (λW1 hW1=> ?_);have hs1:ST n₀ D sv xs S w (λb=>S b\/b=w.heap.size+1+1) W1:=by
  have h1:=((h.st.alloc (.cells #[.int .i64 ax,.int .i64 ay] 26)).alloc (.cells #[.int .i64 bx,.int .i64 by_] 26)).allocT (a5m fa fb);exact yja
 have kC:Blk W1 (w.heap.size+1+1) #[.int .i64 ax,.int .i64 ay] 26:=by
  have h1:=Blk.new ((w.alloc (.cells #[.int .i64 ax,.int .i64 ay] 26)).alloc (.cells #[.int .i64 bx,.int .i64 by_] 26)) #[.int .i64 ax,.int .i64 ay] 26;exact yja
 have kA:Blk W1 w.heap.size #[.int .i64 ax,.int .i64 ay] 26:=by
  rw[hW1];exact((Blk.new w _ _).alloc _).alloc _
 have kB:Blk W1 (w.heap.size+1) #[.int .i64 bx,.int .i64 by_] 26:=by
  have h1:=(Blk.new (w.alloc (.cells #[.int .i64 ax,.int .i64 ay] 26)) #[.int .i64 bx,.int .i64 by_] 26).alloc (.cells #[.int .i64 ax,.int .i64 ay] 26);exact yja
 have sl1:SL (λb=>S b\/b=w.heap.size+1+1) W1 26 (.slice (some ⟨w.heap.size+1+1,0,none⟩) 1 1) 1:=SL.blk (.inr rfl) kC (by show 1*2<=2;omega);clear hW1 kC;obtain⟨S1,hS1⟩:∃S1:BS,(λb=>S b\/b=w.heap.size+1+1)=S1:=⟨_,rfl⟩;have nA:¬S1 w.heap.size:=by
  rw[<-hS1];rintro(h|h)
  ·have:=hlt _ h;omega
  ·omega
 have nB:¬S1 (w.heap.size+1):=by
  rw[<-hS1];rintro(h|h)
  ·have:=hlt _ h;omega
  ·omega
 have dA:w.heap.size≠D:=oM;have dB:w.heap.size+1≠D:=oM;rw[hS1]at hs1 sl1;clear hS1 hlt hDl;obtain⟨B4,hB4⟩:=zE (w.heap.size+1);obtain⟨B5,hB5⟩:=zE (w.heap.size+1+1);obtain⟨B3,hB3⟩:=zE w.heap.size;rw[hB4]at kB nB dB;rw[hB5]at sl1;rw[hB3]at kA nA dA;rw[hB5,hB4,hB3];clear hB5 hB4 hB3;go_upto_region 4 with(first
  |(go_at_call 73;refine(hs1.call 4 oM oM).mono ?_;rintro e W2⟨many,rfl,m0,m1,hs2,hg2,he2⟩;have kA2:=kA.kept hg2 (λe=>dA (Option.some.inj e).symm);have kB2:=kB.kept hg2 (λe=>dB (Option.some.inj e).symm);obtain⟨a0,a1,-,-⟩:=pt2 kA2;obtain⟨b0,b1,-,-⟩:=pt2 kB2)
  |(go_at_call 163;refine(d9u _ _ _ _ _).mono ?_;rintro e W3⟨⟨ux,uy,rfl,fu,fv⟩,hb3⟩))
 have hT3:=(hs2.up hb3).td.tw;have hs3:=(hs2.up hb3).alloc (.cells #[.int .i64 ux,.int .i64 uy] 26);have kU:=Blk.new W3 #[.int .i64 ux,.int .i64 uy] 26;have kA3:=(kA2.below hb3 kA2.lt).alloc (.cells #[.int .i64 ux,.int .i64 uy] 26);have kB3:=(kB2.below hb3 kB2.lt).alloc (.cells #[.int .i64 ux,.int .i64 uy] 26);have nU:¬S1 W3.heap.size:=λhU=>Nat.lt_irrefl _ (hT3.lt hU)
 have dU:W3.heap.size≠D:=λe=>by have:=(hs2.up hb3).td.lt;omega
 have sl3:=(Ev.of_below (X:=noB) hT3 ((zR _ _).alloc (yR _) (.cells #[.int .i64 ux,.int .i64 uy] 26))).sl ((Ev.of_below (X:=noB) hs2.td.tw hb3).sl (he2.sl sl1));obtain⟨BU,hBU⟩:=zE W3.heap.size;obtain⟨Wb,hWb⟩:=zE (W3.alloc (.cells #[.int .i64 ux,.int .i64 uy] 26));rw[hWb]at hs3 kU kA3 kB3 sl3;rw[hBU]at kU nU dU;rw[hBU,hWb];clear hBU hWb hT3 kA kB kA2 kB2 a0 a1 b0 b1 hs1 sl1 hs2 hg2 he2 hb3;obtain⟨v1,hv1⟩:=zE (Value.slice (some ⟨B5,0,none⟩) 1 1);rw[hv1]at sl3;rw[hv1];clear hv1;obtain⟨M,rfl⟩:∃M:Nat,many=M:=⟨many.toNat,oM⟩;go_wp2_with fail;go_loopw [7,10] (λv kk wr=>∃(k:Nat) (S':BS) (n:Nat),1<=k/\k<=M+1/\kk= .int .i64 (k:Nat)/\n<=k/\SL S' wr 26 v n/\ST n₀ D sv xs S1 Wb S' wr) (λ_ kk _=>M+1-(intOf kk).toNat)
 case atStart=>exact⟨1,S1,1,oM,oM,rfl,oM,sl3,hs3.td.st⟩
 case round =>
  obtain⟨k,S',n,hk1,hkM,rfl,hn,hsl,hst⟩:=hrel;obtain⟨kA,nA'⟩:=hst.blk0 kA3 nA dA;obtain⟨kB,nB'⟩:=hst.blk0 kB3 nB dB;obtain⟨kU',nU'⟩:=hst.blk0 kU nU dU;by_cases hlt:k<=M
  ·have hltI:(k:Int)<=(M:Int):=oM
   have hM0:¬(M:Int)+1=0:=oM;have hMw:IntKind.i64.wrap ((M:Int)+1)=M+1:=a0k oM oM;obtain⟨a0,a1,-,-⟩:=pt2 kA;obtain⟨b0,b1,-,-⟩:=pt2 kB;obtain⟨u0,u1,-,-⟩:=pt2 kU';go_upto_region 7 with fail;refine Go.wp_region_rel 22 zM zM (λ_ W=>WG7 wr B3 BU ax ay ux uy W) (λw w'=>Below w.heap.size w w') (FWg wr B3 BU k M ax ay ux uy) (λ_ _ _ _ h g=>h.kept g) ⟨(zR _ _).drew,kA.drew,kU'.drew⟩ ?_ ?_
   ·clear hst hsl kA kB kU'
    intro i o hi ho c bb W hc hM hA hD K hK;match i,hi,ho with
    |0,_,ho =>
     cases ho;have f3:=a0a (v:= .pointer (some ⟨B3,0,none⟩)) (hA.at_ (k:=3) zM);go_simp;exact hK (.pointer (some ⟨B3,0,none⟩)) W rfl (zR _ _) hM
    |1,_,ho =>
     cases ho;have f25:=a0a (v:= .pointer (some ⟨B3,0,none⟩)) (a0c hD 0 25 zM rfl rfl);have z0:W.cell? ⟨B3,0,none⟩=some (.int .i64 ax):=hM.a.cell 0;go_simp;exact hK (.int .i64 ax) W rfl (zR _ _) hM
    |2,_,ho =>
     cases ho;have f9:=a0a (v:= .pointer (some ⟨BU,0,none⟩)) (hA.at_ (k:=9) zM);go_simp;exact hK (.pointer (some ⟨BU,0,none⟩)) W rfl (zR _ _) hM
    |3,_,ho =>
     cases ho;have f27:=a0a (v:= .pointer (some ⟨BU,0,none⟩)) (a0c hD 2 27 zM rfl rfl);have z0:W.cell? ⟨BU,0,none⟩=some (.int .i64 ux):=hM.u.cell 0;go_simp;exact hK (.int .i64 ux) W rfl (zR _ _) hM
    |4,_,ho =>
     exact ydu
    |5,_,ho =>
     cases ho;have f28:=a0a (v:= .int .i64 ux) (a0c hD 3 28 zM rfl rfl);have f29:=a0a (v:= .int .i64 (k:Nat)) (a0c hD 4 29 zM rfl rfl);exact ybx
    |6,_,ho =>
     exact yjf
    |7,_,ho =>
     cases ho;have f31:=a0a (v:= .int .i64 (M:Nat)) (a0c hD 6 31 zM rfl rfl);exact yfq
    |8,_,ho =>
     cases ho;have f30:=a0c hD 5 30 zM rfl rfl;obtain⟨x30,e30,g30⟩:=f30;have f30:=a0a e30;have f32:=a0a (v:= .int .i64 ((M:Nat)+1)) (a0c hD 7 32 zM rfl rfl);exact ybx
    |9,_,ho =>
     cases ho;have f26:=a0a (v:= .int .i64 ax) (a0c hD 1 26 zM rfl rfl);have f33:=a0c hD 8 33 zM rfl rfl;obtain⟨x33,e33,g33⟩:=f33;have f33:=a0a e33;exact ybx
    |10,_,ho =>
     cases ho;have f3:=a0a (v:= .pointer (some ⟨B3,0,none⟩)) (hA.at_ (k:=3) zM);go_simp;exact hK (.pointer (some ⟨B3,1,none⟩)) W rfl (zR _ _) hM
    |11,_,ho =>
     cases ho;have f35:=a0a (v:= .pointer (some ⟨B3,1,none⟩)) (a0c hD 10 35 zM rfl rfl);have z0:W.cell? ⟨B3,1,none⟩=some (.int .i64 ay):=hM.a.cell 1;go_simp;exact hK (.int .i64 ay) W rfl (zR _ _) hM
    |12,_,ho =>
     cases ho;have f9:=a0a (v:= .pointer (some ⟨BU,0,none⟩)) (hA.at_ (k:=9) zM);go_simp;exact hK (.pointer (some ⟨BU,1,none⟩)) W rfl (zR _ _) hM
    |13,_,ho =>
     cases ho;have f37:=a0a (v:= .pointer (some ⟨BU,1,none⟩)) (a0c hD 12 37 zM rfl rfl);have z0:W.cell? ⟨BU,1,none⟩=some (.int .i64 uy):=hM.u.cell 1;go_simp;exact hK (.int .i64 uy) W rfl (zR _ _) hM
    |14,_,ho =>
     exact ydu
    |15,_,ho =>
     cases ho;have f38:=a0a (v:= .int .i64 uy) (a0c hD 13 38 zM rfl rfl);have f39:=a0a (v:= .int .i64 (k:Nat)) (a0c hD 14 39 zM rfl rfl);exact ybx
    |16,_,ho =>
     exact yjf
    |17,_,ho =>
     cases ho;have f41:=a0a (v:= .int .i64 (M:Nat)) (a0c hD 16 41 zM rfl rfl);exact yfq
    |18,_,ho =>
     cases ho;have f40:=a0c hD 15 40 zM rfl rfl;obtain⟨x40,e40,g40⟩:=f40;have f40:=a0a e40;have f42:=a0a (v:= .int .i64 ((M:Nat)+1)) (a0c hD 17 42 zM rfl rfl);exact ybx
    |19,_,ho =>
     cases ho;have f36:=a0a (v:= .int .i64 ay) (a0c hD 11 36 zM rfl rfl);have f43:=a0c hD 18 43 zM rfl rfl;obtain⟨x43,e43,g43⟩:=f43;have f43:=a0a e43;exact ybx
    |20,_,ho =>
     cases ho;have f34:=a0c hD 9 34 zM rfl rfl;obtain⟨x34,e34,g34⟩:=f34;have f34:=a0a e34;have f44:=a0c hD 19 44 zM rfl rfl;obtain⟨x44,e44,g44⟩:=f44;have f44:=a0a e44;go_simp;exact hK _ W ⟨_,_,rfl,g34,g44⟩ (zR _ _) hM
    |21,_,ho =>
     exact yfm
    |i+22,hi,_=>exact absurd hi oM
   ·intro bb W hM hA hall
    obtain⟨X,Y,hP20,fX,fY⟩:=(show ∃X Y,bb.eval (.tmp 45)= .agg #[.int .i64 X,.int .i64 Y]/\fits X/\fits Y from hall 20 oM _ _ rfl rfl);obtain⟨B,hP21,hBl,kB0⟩:=(show ∃B,bb.eval (.tmp 11)= .pointer (some ⟨B,0,none⟩)/\wr.heap.size<=B/\Blk W B #[.int .i64 0,.int .i64 0] 26 from hall 21 oM _ _ rfl rfl);have hfr:=hA.frame (rT 11 (rF 1 (rT 13 (rF 21 (rT 30 ([])))))) _ rfl zM;clear hall hA;obtain⟨f,hf⟩:∃f:Nat->Value,(λk=>bb.tmps.getD k undef)=f:=⟨_,rfl⟩;have g45:f 45= .agg #[.int .i64 X,.int .i64 Y]:=by rw[<-hf,<-hP20];rfl
    have g11:f 11= .pointer (some ⟨B,0,none⟩):=by rw[<-hf,<-hP21];rfl
    rw[hf]at hfr;clear hf hP20 hP21;subst hfr;simp only[rT,rF,a1z,g45,g11,Nat.reduceAdd];clear g45 g11;simp only[zU];have fr0:=kB0.frozen 0;have fr1:=kB0.frozen 1;obtain⟨q0,q1,-,-⟩:=pt2 kB0;go_upto_region 8 with fail;refine a0n (λW5 hW5=> ?_);have hBb:Below wr.heap.size wr W5:=by
     rw[hW5];exact(hM.b.setCell (p:=⟨B,0,none⟩) hBl _).setCell (p:=⟨B,1,none⟩) hBl _
    have kP:Blk W5 B #[.int .i64 X,.int .i64 Y] 26:=by
     have h9:=(kB0.set 0 (.int .i64 X)).set 1 (.int .i64 Y);rw[hW5];simpa using h9
    clear hW5 q0 q1 fr0 fr1 kB0 hM a0 a1 b0 b1;have hst5:=hst.up hBb;have nP:¬S' B:=λhB=>by have:=hst.td.tw.lt hB;omega
    have dP:B≠D:=λe=>by have:=hst.td.lt;omega
    have kU5:=kU'.below hBb kU'.lt;have hsl5:=(Ev.of_below (X:=noB) hst.td.tw hBb).sl hsl;have hPW:Wb.heap.size<=B:=Nat.le_trans hst.ev.size hBl;clear u0 u1 hsl hBb hst;have hq0:¬IntKind.i64.wrap (1+IntKind.i64.wrap ((M:Int).tdiv 2))=0:=by
     rw[Int.tdiv_eq_ediv_of_nonneg oM,a0k (x:=(M:Int) / 2) oM oM,a0k oM oM];omega
    have hq1:(M:Int).tdiv 2=(M:Int) / 2:=Int.tdiv_eq_ediv_of_nonneg oM;have hq2:0<=(M:Int) / 2/\(M:Int) / 2<=2:=oM;obtain⟨h2q,hh2q⟩:=zE ((M:Int).tdiv 2);rw[<-hq1]at hq2;rw[hh2q]at hq2 hq0;obtain⟨hq20,hq21⟩:=hq2;have hq3:¬1+h2q=0:=oM;clear hq1;by_cases huv:uy<ux
    all_goals
     go_upto_region 12 with(first
      |(go_at_call 73;refine(hst5.call 21 oM oM).mono ?_;rintro e W6⟨dr,rfl,r0,r1,hst6,hg6,he6⟩;have kP6:=kP.kept hg6 (λe=>dP (Option.some.inj e).symm);have kU6:=kU5.kept hg6 (λe=>dU (Option.some.inj e).symm);obtain⟨u0,u1,-,-⟩:=pt2 kU6;obtain⟨p0,p1,fr0,fr1⟩:=pt2 kP6))
     refine a0n (λW7 hW7=> ?_);have hst7:ST n₀ D sv xs S1 Wb S' W7:=by
      rw[hW7];exact hst6.own hPW nP dP _ _
     have hsl7:SL S' W7 26 u7 n:=by
      rw[hW7];exact SL.mono (he6.sl hsl5) (λ_ h=>h) (Shp.set nP _ _)
     obtain⟨X',Y',fX',fY',kP7⟩:∃X' Y',fits X'/\fits Y'/\Blk W7 B #[.int .i64 X',.int .i64 Y'] 26:=by
      rw[hW7];first
       |exact⟨_,_,fX,a1b _,by simpa using kP6.set 1 (.int .i64 (wrap64 (Y+(dr-10).tdiv (1+h2q))))⟩
       |exact⟨_,_,a1b _,fY,by simpa using kP6.set 0 (.int .i64 (wrap64 (X+(dr-10).tdiv (1+h2q))))⟩
     obtain⟨p0,p1,-,-⟩:=pt2 kP7;clear hW7 hst6 kP6 kU6 u0 u1 kP kU5 hst5 fr0 fr1 hg6 he6 hsl5;go_wp2_with (first
      |(at_builtin;refine a0y hst7.td.tw qM _ _ 147 qM underlying147 a1s qM hsl7 qM rfl (a5m fX' fY') rfl oM ?_;intro v9 S9 w9 hsl9 he9))
     go_roundw
     case rel=>exact⟨k+1,S9,n+1,oM,oM,by go_num,oM,hsl9,hst7.evo he9⟩
     case measure=>simp[intOf];omega
  ·obtain rfl:k=M+1:=oM
   have hge:¬((M:Int)+1<=(M:Int)):=oM;obtain⟨b0,b1,-,-⟩:=pt2 kB;go_wp2_with (first
    |(at_builtin;refine a0y hst.td.tw qM _ _ 147 qM underlying147 a1s qM hsl qM rfl (a5m fc fd) rfl oM ?_;intro v9 S9 w9 hsl9 he9))
   go_ret;exact⟨S9,v9,rfl,n+1,hsl9,oM,(hst.evo he9).td,(hs3.then_ (hst.evo he9).td (hst.evo he9).ev).ev⟩
end
end Go.Proofs.YtfocdbjceedagaaGreatDoor
