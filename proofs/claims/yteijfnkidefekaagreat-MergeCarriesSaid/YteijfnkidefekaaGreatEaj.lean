/-
  Parts.
-/
import Derived.Test.YteijfnkidefekaaGreatEab
import Derived.Test.YteijfnkidefekaaGreatEae
set_option linter.unusedVariables false
set_option linter.unusedSimpArgs false
set_option linter.unusedSectionVars false
namespace Go.Proofs.YteijfnkidefekaaGreat
open Tryz
section
open Go.RowKit Go.Shelf Go.Lib Go.Sort
def a0h {α:Type}(k:α->Int)(a b:α):Int:=compareInt (k a) (k b)
section
variable {α:Type}{k:α->Int}
theorem c0l (a b:α):(ltOf (a0h k) a b=true↔k a<k b):=by
 unfold ltOf a0h compareInt;by_cases h1:k a<k b
 ·simp[h1]
 ·by_cases h2:k b<k a
  ·simp[h1,h2]
  ·simp[h1,h2]
theorem c8r (a b:α):ltOf (a0h k) a b=decide (k a<k b):=by rw[Bool.eq_iff_iff,c0l,decide_eq_true_iff]
theorem a2h (k:α->Int):SWO (ltOf (a0h k)) where
 irrefl a:=by rw[c8r];simp
 trans a b c h1 h2:=by rw[c0l]at *;omega
 ntrans a b c h1 h2:=by rw[c8r]at *;simp at *;omega
theorem a5t {x y:α}{c:Int}(h:a0h k x y=c)(hc:¬c<0):ltOf (a0h k) x y=false:=by
 subst h;unfold ltOf;simpa using hc
theorem a5a {x y:α}{c:Int}(h:a0h k x y=c)(hc:c<0):ltOf (a0h k) x y=true:=by
 subst h;unfold ltOf;simpa using hc
theorem b9m {i j:Nat}(h:i<j):∃k:Nat,((i:Int)+(j:Int)) / 2=(k:Int)/\i<=k/\k<j:=⟨(i+j) / 2,xM,xM,xM⟩
end
section
variable {α:Type} [Inhabited α]{E:El α}
abbrev RowE (E:El α)(W:Wd)(blk off:Nat)(d:Array α):Prop:=HoldsK E.enc E.s W blk off d
theorem a4k {W W':Wd}{b:Nat}(h:W'.heap[b]? =W.heap[b]?)(i:Nat):W'.frozen? ⟨b,i,none⟩=W.frozen? ⟨b,i,none⟩:=by
 unfold World.frozen?;simp only[h]
theorem a1r {W W':Wd}{b i:Nat}(h:W'.heap[b]? =W.heap[b]?):W'.cell? ⟨b,i,none⟩=W.cell? ⟨b,i,none⟩:=by
 unfold World.cell?;simp only[h]
theorem RowE.same {W W':Wd}{blk off:Nat}{d:Array α}(h:RowE E W blk off d)(hs:W'.heap[blk]? =W.heap[blk]?):RowE E W' blk off d:=λj hj =>
 ⟨(a1r hs).trans (h j hj).1,(a4k hs _).trans (h j hj).2⟩
def b8c (E:El α)(W:Wd)(blk off p q:Nat)(d:Array α):World:=(W.setCells blk (off+p*E.s) (E.enc d[q]!)).setCells blk (off+q*E.s) (E.enc d[p]!)
theorem c0m (hE:E.Ok){W:Wd}{blk off p q:Nat}{d:Array α}(h:RowE E W blk off d)(hp:p<d.size)(hq:q<d.size):RowE E (b8c E W blk off p q d) blk off (swp d p q):=by
 have b:∀x,x<d.size->x*E.s+E.s<=d.size*E.s:=λx hx=>by
  have:=Nat.mul_le_mul_right E.s hx;rw[Nat.succ_mul]at this;exact this
 have h1:=holds_setCells_c h (p*E.s) (E.enc d[q]!) (by rw[size_flatK,hE.len];exact b p hp);have h2:=holds_setCells_c h1 (q*E.s) (E.enc d[p]!) (by rw[size_setMany,size_flatK,hE.len];exact b q hq);unfold RowE HoldsK;rw[<-setMany_swp E.enc E.s hE.len d p q hp hq];exact h2
theorem a3a (blk:Nat):∀(vs:List Value) (o:Nat) (W:Wd),W.grownBy (W.setCells blk o vs) (some blk)
 |[],o,W=>⟨rfl,rfl,rfl,yR _,λ_ _ _=>rfl⟩
 |v::vs,o,W=>by
  have h1:=a0d W blk o v;have h2:=a3a blk vs (o+1) (W.setCell ⟨blk,o,none⟩ v);exact⟨h2.os.trans h1.os,h2.tape.trans h1.tape,h2.output.trans h1.output,Nat.le_trans h1.size h2.size,λk hk hn=>(h2.block k (Nat.lt_of_lt_of_le hk h1.size) hn).trans (h1.block k hk hn)⟩
theorem a3f {W W1 W2:Wd}{b:Option Nat}(h1:W.grownBy W1 b)(h2:W1.grownBy W2 b):W.grownBy W2 b :=
 ⟨h2.os.trans h1.os,h2.tape.trans h1.tape,h2.output.trans h1.output,Nat.le_trans h1.size h2.size,λk hk hn=>(h2.block k (Nat.lt_of_lt_of_le hk h1.size) hn).trans (h1.block k hk hn)⟩
theorem a7h {W W1:Wd}(b:Option Nat)(h:Below W.heap.size W W1):W.grownBy W1 b:=⟨h.os,h.tape,h.output,h.size,λk hk _=>h.block k hk⟩
def RowBE (E:El α)(W:Wd)(blk N:Nat):Prop:=∃cur,Blk W blk cur E.t/\cur.size=N
theorem RowBE.same {W W':Wd}{blk N:Nat}(h:RowBE E W blk N)(hs:W'.heap[blk]? =W.heap[blk]?):RowBE E W' blk N:=by
 obtain⟨cur,h1,h2⟩:=h;exact⟨cur,hs.trans h1,h2⟩
theorem RowBE.setCells {blk N:Nat}:∀(vs:List Value) (o:Nat) (W:Wd),RowBE E W blk N->RowBE E (W.setCells blk o vs) blk N
 |[],_,_,h=>h
 |v::vs,o,W,⟨cur,h1,h2⟩=>RowBE.setCells vs (o+1) _ ⟨_,h1.set o v,by simpa using h2⟩
theorem RowBE.lt {W:Wd}{blk N:Nat}(h:RowBE E W blk N):blk<W.heap.size:=h.choose_spec.1.lt
structure SoE (E:El α)(w:Wd)(blk off N:Nat)(n:Nat)(d:Array α)(W:Wd):Prop where
 row:RowE E W blk off d
 rb:RowBE E W blk N
 gr:w.grownBy W (some blk)
 sz:d.size=n
theorem SoE.below {w:Wd}{blk off N n:Nat}{d:Array α}{W W':Wd}(h:SoE E w blk off N n d W)(hb:Below W.heap.size W W'):SoE E w blk off N n d W' :=
 have e:=hb.block blk h.rb.lt
 ⟨h.row.same e,h.rb.same e,a3f h.gr (a7h _ hb),h.sz⟩
theorem SoE.drew {w:Wd}{blk off N n:Nat}{d:Array α}{W:Wd}(h:SoE E w blk off N n d W):SoE E w blk off N n d W.drew:=h.below ⟨rfl,rfl,rfl,yR _,λ_ _=>rfl⟩
theorem SoE.grow {w:Wd}{blk off N n:Nat}{d:Array α}{W:Wd}(h:SoE E w blk off N n d W)(p:Growth):w.grownBy (W.growBy p) (some blk):=a3f h.gr (a7h _ (below_growBy _ _))
theorem SoE.swap (hE:E.Ok){w:Wd}{blk off N n p q:Nat}{d:Array α}{W:Wd}(h:SoE E w blk off N n d W)(hp:p<n)(hq:q<n):SoE E w blk off N n (swp d p q) (b8c E W blk off p q d) :=
 ⟨c0m hE h.row (by rw[h.sz];exact hp) (by rw[h.sz];exact hq),RowBE.setCells _ _ _ (RowBE.setCells _ _ _ h.rb),a3f h.gr (a3f (a3a _ _ _ _) (a3a _ _ _ _)),by rw[size_swp];exact h.sz⟩
def SoXE (E:El α)(w:Wd)(blk off N n:Nat)(R:Array α->Prop)(W:Wd):Prop:=∃d,SoE E w blk off N n d W/\R d
theorem SoXE.mk {w:Wd}{blk off N n:Nat}{R:Array α->Prop}{W:Wd}{d:Array α}(h:SoE E w blk off N n d W)(g:R d):SoXE E w blk off N n R W:=⟨d,h,g⟩
theorem b2q (hE:E.Ok)(d:Array α)(t:Nat)(ht:t<d.size*E.s):(d.toList.flatMap E.enc)[t]? =some (flatK E.enc E.s d)[t]! :=by
 have hs:=hE.pos;have IJ:t / E.s<d.size:=Nat.div_lt_of_lt_mul (by rw[Nat.mul_comm];exact ht);have hq:t / E.s<d.toList.length:=by simpa using IJ
 have hr:t % E.s<E.s:=Nat.mod_lt _ hs;have e1:t / E.s*E.s+t % E.s=t:=by rw[Nat.mul_comm];exact Nat.div_add_mod t E.s
 have h2:=b0i hE d.toList (t / E.s) (t % E.s) hq hr;rw[e1]at h2;rw[h2,get_flatK _ _ _ _ ht];rw[getElem!_pos d (t / E.s) IJ];have hl:t % E.s<(E.enc d[t / E.s]).length:=by rw[hE.len];exact hr
 rw[getElem!_pos (E.enc d[t / E.s]) (t % E.s) hl];simp only[Array.getElem_toList];exact List.getElem?_eq_getElem hl
theorem a4q (hE:E.Ok){w:Wd}{base g cap:Nat}{l:List α}(h:w.ownsRow base E.t E.s (.slice (some ⟨g,0,none⟩) l.length cap) l.length (l.flatMap E.enc)):SoE E w g 0 (cap*E.s) l.length l.toArray w/\base<=g:=by
 rcases h.2 with⟨e,-⟩|⟨g',bk,cur,e,hb,hg,h1,h2,h3,h4⟩
 ·cases e
 ·simp only[Value.slice.injEq,Option.some.injEq,Addr.mk.injEq,and_true,true_and]at e
  obtain⟨rfl,rfl⟩:=e;refine⟨⟨λt ht=>⟨?_,(show Blk w g cur E.t from hg).frozen _⟩,⟨cur,hg,h3⟩,⟨rfl,rfl,rfl,yR _,λ_ _ _=>rfl⟩,by simp⟩,hb⟩;have IK:t<l.length*E.s:=by simpa using ht
  have h5:=b2q hE l.toArray t (by simpa using IK);simp only at h5;have h6:=h.cellAt t IK;rw[h5]at h6;simpa using h6
theorem a4r (hE:E.Ok){w W:Wd}{base g cap n:Nat}{d:Array α}(h:SoE E w g 0 (cap*E.s) n d W)(hb:base<=g)(hc:n<=cap)(hm:cap<=maxLen):W.ownsRow base E.t E.s (.slice (some ⟨g,0,none⟩) n cap) n (d.toList.flatMap E.enc):=by
 obtain⟨hr,⟨cur,hk,hs⟩,-,hz⟩:=h;have hlen:(d.toList.flatMap E.enc).length=n*E.s:=by rw[a0t hE];simp[hz]
 refine⟨hlen,.inr ⟨g,cap,cur,rfl,hb,hk,hc,hm,hs,?_⟩⟩;refine List.ext_getElem? λt=> ?_
 by_cases ht:t<n*E.s
 ·rw[List.getElem?_take_of_lt ht,b2q hE d t (by rw[hz];exact ht)]
  have h1:=(hr t (by rw[size_flatK,hz];exact ht)).1;rw[Nat.zero_add,hk.cell t]at h1;simpa using h1
 ·rw[List.getElem?_eq_none uM,List.getElem?_eq_none xM]
end
theorem a3n {W:Wd}{b b':Nat}{e:Td}{s:Nat}{v:Vu}{n:Nat}{xs:List Value}(h:W.ownsRow b e s v n xs)(hb:b'<=b):W.ownsRow b' e s v n xs:=by
 exact yjr
/-! ### sorted by a number -/
def a0w {α:Type} [Inhabited α](k:α->Int)(l:List α):List α:=(insertionSort (ltOf (a0h k)) l.toArray 0 l.length).toList
theorem a1b {α:Type} [Inhabited α](k:α->Int)(l:List α):l.Perm (a0w k l)/\Inc k (a0w k l):=by
 have hz:l.toArray.size=l.length:=by simp
 have h:=a0r (lt:=ltOf (a0h k)) (a2h k) l.toArray (a:=0) (b:=l.length) (Nat.zero_le _) vM;have bn:(insertionSort (ltOf (a0h k)) l.toArray 0 l.length).size=l.length:=h.out.1.trans hz;have e1:ext l.toArray 0 l.length=l:=by rw[<-hz,b0g]
 have e2:ext (insertionSort (ltOf (a0h k)) l.toArray 0 l.length) 0 l.length=a0w k l:=by
  have:=b0g (insertionSort (ltOf (a0h k)) l.toArray 0 l.length);rw[bn]at this;exact this
 have hp:=h.stb.perm;rw[e1,e2]at hp;refine⟨hp,?_⟩;have hs:=(b4i (lt:=ltOf (a0h k))).2 h.asc;rw[e2]at hs;unfold Asc at hs;unfold Inc;refine hs.imp λ{a b} h=> ?_
 rw[c8r]at h;simp at h;exact h
theorem a2k {α:Type} [Inhabited α](k:α->Int)(l:List α):(a0w k l).length=l.length:=(a1b k l).1.length_eq.symm
structure SyB (a m b mid lo hi:Nat):Prop where
 lo0:a<=lo
 lh:lo<=hi
 hm:hi<=m
 hd:hi<=mid
 lb:mid+m<=b+lo
 l1:lo=a\/mid+m=b+lo
 h1:hi=m\/hi=mid
end
section
open Go Go.RowKit Go.Shelf
theorem a8n {α:Type}{E:El α}(hE:E.Ok):∀(l:List α) (p i:Nat) (hp:p<l.length) (hi:i<E.s) (y:α) (u:Vu),E.enc y=(E.enc l[p]).set i u->(l.flatMap E.enc).set (p*E.s+i) u=(l.set p y).flatMap E.enc
 |x::l,0,i,hp,hi,y,u,h=>by
  have hl:(E.enc x).length=E.s:=hE.len x;rw[List.set_cons_zero,List.flatMap_cons,List.flatMap_cons,Nat.zero_mul,Nat.zero_add,List.set_append_left _ _ xM,h];rfl
 |x::l,p+1,i,hp,hi,y,u,h=>by
  have hl:(E.enc x).length=E.s:=hE.len x;have rm:p<l.length:=by simpa using hp
  rw[List.set_cons_succ,List.flatMap_cons,List.flatMap_cons,List.set_append_right _ _ (by rw[hl,Nat.add_mul];omega),hl,show(p+1)*E.s+i-E.s=p*E.s+i from by rw[Nat.add_mul];omega];rw[a8n hE l p i rm hi y u h]
theorem El.setRow {α:Type}{E:El α}(hE:E.Ok){W:Wd}{base g cap:Nat}{l:List α}(hr:W.ownsRow base E.t E.s (.slice (some ⟨g,0,none⟩) l.length cap) l.length (l.flatMap E.enc)){p i:Nat}(hp:p<l.length)(hi:i<E.s){y:α}{u:Vu}(h:E.enc y=(E.enc l[p]).set i u) :
 (W.setCell ⟨g,p*E.s+i,none⟩ u).ownsRow base E.t E.s (.slice (some ⟨g,0,none⟩) l.length cap) (l.set p y).length ((l.set p y).flatMap E.enc):=by
 obtain⟨h1,⟨h2,-⟩|⟨g',bk,cur,h2,h3,h4,h5,h6,h7,h8⟩⟩:=hr
 ·cases h2
 ·cases h2
  have hk:Blk W g cur E.t:=h4;have h9:=a8n hE l p i hp hi y u h;have ab:p*E.s+i<l.length*E.s:=by
   have:=Nat.mul_le_mul_right E.s (show p+1<=l.length by omega);rw[Nat.add_mul]at this;omega
  rw[List.length_set];refine⟨by rw[<-h9,List.length_set];exact h1,.inr ⟨g,cap,cur.setIfInBounds (p*E.s+i) u,rfl,h3,hk.set _ _,h5,h6,by rw[Array.size_setIfInBounds];exact h7,?_⟩⟩;rw[<-h9,<-h8];simp only[Array.toList_setIfInBounds];rw[List.take_set]
section
variable {α:Type}{E:El α}{P:Program}{st:Td}{w:Wd}{l:List α}
end
section
variable {S0 S S':BS}{W0 W W':Wd}{L:a5g}{T:SlL}{ov v:Vu}{l:List Pc}
theorem OY.other {o:Option Nat}(h:OY S0 W0 S W L T)(hg:W.grownBy W' o)(ho:∀g,o=some g->¬S g/\W0.heap.size<=g/\∀p∈L,p.1≠g):OY S0 W0 S W' L T:=by
 have aG:∀b,S b->W'.heap[b]? =W.heap[b]? :=λb hb=>hg.block b (h.tw.lt hb) (λe=>(ho b e.symm).1 hb)
 have bg:=h.o.ev.own hg (λr e=>⟨(ho r e).1,(ho r e).2.1⟩);have aW:Below W0.heap.size W W':=Below.of_grown hg h.size (λq e=>(ho q e).2.1);have cM:Shp S W W':=λb c e hb hc=>⟨c,(aG b hb).trans hc,rfl⟩
 refine⟨⟨bg,λp hp=> ?_,h.o.ne,λq hq=>(h.o.sl q hq).mono (λ_ h=>h) cM⟩,h.bel.trans aW⟩;obtain⟨k1,k2,k3⟩:=h.o.bx p hp;exact⟨k1.kept hg (λe=>(ho p.1 e).2.2 p hp rfl),k2,k3⟩
theorem OP.offL (h:OP S0 W0 S W L T ov l):∀g,ov.ownBlock=some g->¬S g/\W0.heap.size<=g/\∀p∈L,p.1≠g:=λg hg=>by
 have h1:=(h.row.lt g hg).1;refine⟨h.off g hg,h1,λp hp e=> ?_⟩;rcases h.row.2 with⟨rfl,h3⟩|⟨g',cap,cur,rfl,h3,h4,h5⟩
 ·cases hg
 ·cases hg
  have k1:=(h.b.o.bx p hp).1;unfold Blk at k1;rw[e,h4]at k1;simp only[Option.some.injEq,Obj.cells.injEq]at k1;exact h.np p hp k1.2.1.symm
theorem OP.more {l':List Pc}(h:OP S0 W0 S W L T ov l)(hr:W'.ownsRow W0.heap.size 48 7 v l'.length (l'.flatMap plE.enc))(hg:W.grownBy W' ov.ownBlock)(hn:∀g,v.ownBlock=some g->ov.ownBlock=some g\/W.heap.size<=g):OP S0 W0 S W' L T v l':=by
 refine⟨h.b.other hg h.offL,hr,λg e hs=> ?_,h.np⟩;rcases hn g e with h1|h1
 ·exact h.off g h1 hs
 ·have:=h.b.tw.lt hs
  omega
theorem OP.setRow {g cap:Nat}(h:OP S0 W0 S W L T (.slice (some ⟨g,0,none⟩) l.length cap) l){p i:Nat}(hp:p<l.length)(hi:i<7){y:Pc}{u:Vu}(he:plE.enc y=(plE.enc l[p]).set i u) :
 OP S0 W0 S (W.setCell ⟨g,p*7+i,none⟩ u) L T (.slice (some ⟨g,0,none⟩) l.length cap) (l.set p y):=by
 have:=El.setRow a2n h.row hp hi he;refine h.more (by rw[List.length_set]at this ⊢;exact this) (a0u W g _ u) (λg' e=> .inl e)
end
end
section
open Go.RowKit Go.Maps
structure Vh (β:Type) where
 t:TypeId
 val:β->Value
 z:β
def c0n (v:Vu):Option (DataW Value×List MemPlace):=some (.held v,[])
section
variable {α β:Type} [DecidableEq α]{K:Ky α}{P:Program}
def MapH (P:Program)(K:Ky α)(V:Vh β)(W:Wd)(b n:Nat)(l:List (α×β)):Prop :=
 ∃(D:DataW Value),W.ownsMap P K.t c0n b n D/\(l.map (·.1)).Nodup/\(∀e∈l,K.Ok e.1)/\Maps.size D=l.length /\
  ∀p,K.Ok p->has D (K.kl p)=b2c l p/\D.atKey (K.kl p) (.held (V.val V.z))= .held (V.val ((idG l p).getD V.z))
variable {V:Vh β}{W W':Wd}{b n:Nat}{l:List (α×β)}
theorem MapH.lt (h:MapH P K V W b n l):b<W.heap.size:=by
 obtain⟨D,ho,-⟩:=h;exact ho.lt
theorem MapH.nodup (h:MapH P K V W b n l):(l.map (·.1)).Nodup:=by
 obtain⟨D,-,h1,-⟩:=h;exact h1
theorem MapH.ok (h:MapH P K V W b n l):∀e∈l,K.Ok e.1:=by
 obtain⟨D,-,-,h1,-⟩:=h;exact h1
theorem MapH.same (h:MapH P K V W b n l)(hs:W'.heap[b]? =W.heap[b]?):MapH P K V W' b n l:=by
 obtain⟨D,⟨es,clock,he,r⟩,h1,h2,h3⟩:=h;exact⟨D,⟨es,clock,hs.trans he,r⟩,h1,h2,h3⟩
theorem MapH.kept {row:Option Nat}(h:MapH P K V W b n l)(hg:W.grownBy W' row)(hr:row≠some b):MapH P K V W' b n l:=h.same (hg.block b h.lt λe=>hr e.symm)
theorem MapH.alloc (h:MapH P K V W b n l)(o:Obj):MapH P K V (W.alloc o) b n l:=h.kept (World.grownBy_alloc W o none) vM
theorem MapH.below {n₀:Nat}(h:MapH P K V W b n l)(hb:Below n₀ W W')(hB:b<n₀):MapH P K V W' b n l:=h.same (hb.block b hB)
theorem MapH.made (P:Program)(K:Ky α)(V:Vh β)(W:Wd):MapH P K V (W.alloc (.map #[] 0)) W.heap.size 0 [] :=
 ⟨.map [],World.ownsMap_made W _ _ _,by simp,by simp,rfl,λp _=>⟨rfl,rfl⟩⟩
theorem MapH.store (L:K.Law P){D:DataW Value}{p:α}{x:β}(hD:Tidy D)(h1:(l.map (·.1)).Nodup)(h2:∀e∈l,K.Ok e.1)(h4:Maps.size D=l.length)
 (h3:∀p,K.Ok p->has D (K.kl p)=b2c l p/\D.atKey (K.kl p) (.held (V.val V.z))= .held (V.val ((idG l p).getD V.z))) (hp:K.Ok p)
 (ho:W'.ownsMap P K.t c0n b n (D.put (K.kl p) (.held (V.val x)))):MapH P K V W' b n (a7a l p x):=by
 refine⟨_,ho,?_,?_,?_,λq hq=> ?_⟩
 ·rw[a8d]
  split
  ·exact h1
  ·rename_i h
   rw[List.nodup_append];refine⟨h1,by simp,λa ha c hc=> ?_⟩;obtain rfl:c=p:=by simpa using hc
   exact λe=>h (hasG_iff.2 (e▸ha))
 ·intro e he
  have:e.1∈(a7a l p x).map (·.1):=List.mem_map.2 ⟨e,he,rfl⟩;rw[a8d]at this;split at this
  ·obtain⟨e',DI,h⟩:=List.mem_map.1 this
   rw[<-h];exact h2 e' DI
  ·rcases List.mem_append.1 this with h|h
   ·obtain⟨e',DI,h⟩:=List.mem_map.1 h
    rw[<-h];exact h2 e' DI
   ·rw[show e.1=p by simpa using h];exact hp
 ·rw[size_put hD,(h3 p hp).1,a5d,h4]
 ·have hk:=L.lit hp
  rw[b6r,b4l];by_cases DJ:q=p
  ·subst DJ
   simp[has_put_same hD.isMap hk,atKey_put_same hD.isMap hk]
  ·have an:K.kl q≠K.kl p:=λe=>DJ (L.inj hq hp e)
   simp[has_put_other an,atKey_put_other an,DJ,h3 q hq]
theorem MapH.wp_store (L:K.Law P){ops:Array Oper}{rest:List Oper}{o:Oper}{a:Act}{Q:Exit->Act->World->Prop}(hg:o.guard=none)(m x v:Operand)(t:Td)(Mk:o.op=Op.mapUpdate t m x v)(ht:P.underlying t=some (.map K.t V.t))
 (hm:a.eval m= .map (some b)) (h:MapH P K V W b n l) (hn:n<maxLen) {p:α} (hp:K.Ok p) (hx:a.eval x=K.val p) {y:β} (hv:a.eval v=V.val y)
 (hK:∀w',MapH P K V w' b (n+1) (a7a l p y)->W.grownBy w' (some b)->wpList P ops Q rest (a.put o.dst undef) w'):wpList P ops Q (o::rest) a W:=by
 obtain⟨D,ho,h1,h2,h4,h3⟩:=h;refine wpList_mapUpdate_own W hg m x v t Mk K.t V.t L.law ht _ b n D hm ho hn (K.val p) (V.val y) (K.kl p) hx hv (L.key hp) _ [] rfl ?_;intro w' my lP;exact hK w' (MapH.store L (ho.tidy L.law) h1 h2 h4 h3 hp my) lP
theorem MapH.look (L:K.Law P){t:Td}(ht:P.underlying t=some (.map K.t V.t))(hz:(zeroValue V.t).run P W= .ok (V.val V.z) W)(h:MapH P K V W b n l){p:α}(hp:K.Ok p) :
 (Instr.lookup t (.map (some b)) (K.val p) false).run P W= .ok (V.val ((idG l p).getD V.z)) W:=by
 obtain⟨D,ho,-,-,-,hD⟩:=h;obtain⟨v,ps,ar,hv⟩:=ho.lookup L.law ht hz (zd:= .held (V.val V.z)) (zp:=[]) rfl (L.key hp);rw[(hD p hp).2]at hv
 cases hv;exact ar
theorem MapH.run_len (h:MapH P K V W b n l){t:Td}(ht:P.underlying t=some (.map K.t V.t))(ty:Td):(Builtin.len_ #[t] ty #[.map (some b)]).run P W= .ok (.int .i64 (l.length:Nat)) W:=by
 obtain⟨D,ho,h1,h2,h4,h3⟩:=h;rw[<-h4];exact ho.len ht ty
end
end
section
open Go.RowKit Go.Shelf
abbrev b4u :Array Value:= #[.string ⟨#[]⟩,.string ⟨#[77,111,111,114]⟩,.string ⟨#[71,97,116,101]⟩,.string ⟨#[120,32,121]⟩,.string ⟨#[32,120]⟩,.string ⟨#[120,32]⟩,.string ⟨#[97,34,98]⟩,.string ⟨#[97,98,99,100,101,102,103,104,105,106,107,108,109,110,111,112,113,114,115,116,117,118,119,120,121]⟩,.string ⟨#[65]⟩,.string ⟨#[31]⟩]
theorem a4s (k:Nat)(hk:k<1000):∃s:ByteArray,s.size<=30/\∀w:World,Zc prog 92 #[.int .i64 (k:Nat)] w (.string s):=by
 obtain⟨m,hm,b8⟩:∃m:Nat,(k:Int) % 10=(m:Int)/\m<10:=⟨k % 10,xM,xM⟩;obtain⟨s,hs,hc⟩:∃s:ByteArray,s.size<=30/\b4u[m]? =some (.string s):=by
  match m,b8 with
  |0,_=>exact⟨_,jM,rfl⟩
  |1,_=>exact⟨_,jM,rfl⟩
  |2,_=>exact⟨_,jM,rfl⟩
  |3,_=>exact⟨_,jM,rfl⟩
  |4,_=>exact⟨_,jM,rfl⟩
  |5,_=>exact⟨_,jM,rfl⟩
  |6,_=>exact⟨_,jM,rfl⟩
  |7,_=>exact⟨_,jM,rfl⟩
  |8,_=>exact⟨_,jM,rfl⟩
  |9,_=>exact⟨_,jM,rfl⟩
 refine⟨s,hs,λw=> ?_⟩;have kB:=Blk.new w b4u 9;have cs:(w.alloc (.cells b4u 9)).cell? ⟨w.heap.size,m,none⟩=some (.string s):=(kB.cell m).trans hc;have oW:(m:Int)<10:=xM;have rK:Int.tmod (k:Int) 10=(m:Int):=by rw[Int.tmod_eq_emod_of_nonneg xM];exact hm
 clear kB hc;go_enter func92,ntmps92;exact ybd
section
variable {H:Type}{enc:TypeId×Value->H}{P:Program}{W:Wd}{base:Nat}{sp:Nat->Bool}{hd:Bool}{t e:Td}{v:Vu}
theorem c0o {fuel:Nat}{x:DataW H×List MemPlace}(ht:P.underlying t=some (.slice e))(he:P.underlying e=some (.int .i64))(hc:P.cellsOf e=1)
 (h:DataW.trod enc P W base sp hd fuel t [v]=some x):∃xs,Intz W.heap.size W v xs:=by
 rcases Go.ChangeShapes.open_ints ht he hc h with⟨h1,-⟩|⟨a,len,cap,zs,h1,-,h2,h2m,h3,-,h4,h5⟩
 ·obtain rfl:v= .slice none 0 0:=by simpa using h1
  exact⟨[],Intz.nil _ _⟩
 ·obtain rfl:v= .slice (some a) len cap:=by simpa using h1
  have hz:len<=zs.length:=by rw[h3];split <;> omega
  refine⟨zs.take len,⟨some a,cap,by rw[List.length_take,Nat.min_eq_left hz],λj hj=> ?_⟩,?_⟩
  ·have gK:j<len:=by rw[List.length_take]at hj;omega
   obtain⟨b,off,rfl,h6⟩:=Go.ints_at h4 xM;have h7:=h6 j xM;have hg:zs.getD j 0=zs[j]:=by rw[List.getD_eq_getElem?_getD,List.getElem?_eq_getElem xM];rfl
   rw[List.getElem_take];rw[hg]at h7;exact⟨b,off,rfl,World.block_lt_of_cell? _ _ h7,a7s _ (h5 _ (List.getElem_mem _)),h7⟩
  ·rw[List.length_take,Nat.min_eq_left hz]
   unfold maxLen at h2m;show len<=9223372036854775807;omega
theorem c5s {t2:Td}(vV:P.underlying t2=some (.slice t))(fp:P.cellsOf t=1)(ht:P.underlying t=some (.slice e))(he:P.underlying e=some (.int .i64))(hc:P.cellsOf e=1)(hv:∀cs,v≠.agg cs)
 (h:∃d p,DataW.Trod enc P W base sp hd t2 v d p):∃rows,Mat W.heap.size W v rows/\b2e rows.length:=by
 obtain⟨d,p,fuel,h⟩:=h;have lq:v.cells.toList=[v]:=by cases v <;> first|rfl|exact absurd rfl (hv _)
 rw[lq]at h;rcases Go.Deep.open_slice1 vV fp h with⟨h1,-⟩|⟨a,len,cap,m,n,V,D,Pl,h1,-,h2,h2m,h3,-,h4⟩
 ·obtain rfl:v= .slice none 0 0:=by simpa using h1
  exact⟨[],⟨none,0,rfl,yR _,λj hj=>by simp at hj⟩,Nat.zero_le _⟩
 ·obtain rfl:v= .slice (some a) len cap:=by simpa using h1
  have hm:len<=m:=by rw[h3];split <;> omega
  have each:∀i,i<len->∃r:Value×List Int,W.cell? (a.add i)=some r.1/\Intz W.heap.size W r.1 r.2:=λi hi=>by
   obtain⟨h5,h6⟩:=h4 i xM;obtain⟨xs,hx⟩:=c0o ht he hc h6;exact⟨(V i,xs),h5,hx⟩
  have Qa:Inhabited (Value×List Int):=⟨(.bool false,[])⟩;obtain⟨f,hf⟩:=Go.Deep.choose_lt each;refine⟨(List.range len).map f,⟨some a,cap,by simp,by simpa using h2,λj hj=> ?_⟩,?_⟩
  ·have gK:j<len:=by simpa using hj
   obtain⟨c0,hi⟩:=hf j gK;have jg:a.spot=none:=by
    have d0:=(hf 0 xM).1;simpa[Addr.add]using World.cell?_spot d0
   obtain⟨b,off,spot⟩:=a;simp only at jg;subst jg;rw[Go.WideShapes.add_plain]at c0;have hg:((List.range len).map f)[j]=f j:=by simp
   rw[hg];exact⟨b,off,rfl,World.block_lt_of_cell? _ _ c0,c0,hi⟩
  ·rw[List.length_map,List.length_range]
   unfold maxLen at h2m;show len<=9223372036854775807;omega
end
section
variable {P:Program}{W:Wd}{r:Reach}{base:Nat}{t:Td}{v:Vu}
end
end
end Go.Proofs.YteijfnkidefekaaGreat
