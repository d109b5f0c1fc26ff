/-
  Parts.
-/
import Derived.Test.YtfocdbjceedagaaGreatDoorCay
set_option linter.unusedVariables false
set_option linter.unusedSimpArgs false
set_option maxHeartbeats 8000000
set_option maxRecDepth 100000
namespace Go.Proofs.YtfocdbjceedagaaGreatDoor
open Tryz
section
open Go Go.RowKit Go.Shelf Go.Lib
structure PlW (n:Nat)(pl:Pn):Prop where
 dx:∀d∈pl.dots,(-(1000+10*(n:Int))<=d.x/\d.x<=1000+10*(n:Int)) /\ -(1000+10*(n:Int))<=d.y/\d.y<=1000+10*(n:Int)
 dl:pl.dots.length<=10000
 kc:∀k∈pl.keys,k.c.size<=100000+n
 kl:pl.keys.length<=1000
 lf:∀x∈pl.left,fits x.i
 ll:pl.left.length<=500+n
theorem PlW.sm {n:Nat}{pl:Pn}(h:PlW n pl)(hn:n<=100):∀d∈pl.dots,Sm d:=λd hd=>by
 obtain⟨⟨h1,h2⟩,h3,h4⟩:=h.dx d hd;exact⟨oM,oM,oM,oM⟩
theorem PlW.mono {n m:Nat}{pl:Pn}(h:PlW n pl)(hn:n<=m):PlW m pl :=
 ⟨λd hd=>by obtain⟨⟨h1,h2⟩,h3,h4⟩:=h.dx d hd;exact⟨⟨oM,oM⟩,oM,oM⟩,h.dl,λk hk=>by have:=h.kc k hk;omega,h.kl,h.lf,by have:=h.ll;omega⟩
section
variable {n0:Nat}{W W':Wd}{t tg:Td}{s g n:Nat}{v:Vu}{xs:List Value}{cur c:Array Value}{B:Nat}
theorem a2j {k:Nat}(h:W.ownsRow n0 t s v n xs)(e:v.ownBlock=some k):∃c,Blk W k c t:=by
 rcases h.2 with⟨rfl,-⟩|⟨g,cap,cur,rfl,h1,h2,-⟩
 ·cases e
 ·cases e
  exact⟨cur,h2⟩
theorem a1b (h:W.ownsRow n0 t s v n xs)(hg:W.grownBy W' (some g))(k:Blk W g cur tg)(ht:t≠tg):W'.ownsRow n0 t s v n xs:=h.kept hg (.inr (a0n h k (Ne.symm ht)))
theorem Blk.keep (h:Blk W B c t)(hg:W.grownBy W' (some g))(k:Blk W g cur tg)(ht:t≠tg):Blk W' B c t:=by
 refine(hg.block B h.lt λe=> ?_).trans h
 cases e;have:=h.symm.trans k;simp at this;exact ht this.2
end
structure PR3 (n0:Nat)(W:Wd)(B:Nat)(da ka la:Nat)(dc kc lc:Nat)(D:List Dt)(K:List Ke)(L:List Lf):Prop where
 d:W.ownsRow n0 54 4 (.slice (some ⟨da,0,none⟩) D.length dc) D.length (D.flatMap dtE.enc)
 k:W.ownsRow n0 82 3 (.slice (some ⟨ka,0,none⟩) K.length kc) K.length (K.flatMap keE.enc)
 l:W.ownsRow n0 68 3 (.slice (some ⟨la,0,none⟩) L.length lc) L.length (L.flatMap lfE.enc)
 b:Blk W B #[.slice (some ⟨da,0,none⟩) D.length dc,.slice (some ⟨ka,0,none⟩) K.length kc,.slice (some ⟨la,0,none⟩) L.length lc] 45
 n:n0<=B
 z:n0<=W.heap.size
section
variable {n0:Nat}{W W':Wd}{B da ka la dc kc lc:Nat}{D:List Dt}{K:List Ke}{L:List Lf}
theorem PR3.init {base:Nat}(h1:W.ownsRow base 54 4 (.slice (some ⟨da,0,none⟩) D.length dc) D.length (D.flatMap dtE.enc))(h2:W.ownsRow base 82 3 (.slice (some ⟨ka,0,none⟩) K.length kc) K.length (K.flatMap keE.enc))(h3:W.ownsRow base 68 3 (.slice (some ⟨la,0,none⟩) L.length lc) L.length (L.flatMap lfE.enc))
 (h5:Blk W B #[.slice none 0 0,.slice none 0 0,.slice none 0 0] 45) (hb:n0<=base) (hB:n0<=B) (hz:n0<=W.heap.size) :
 PR3 n0 (((W.setCell ⟨B,0,none⟩ (.slice (some ⟨da,0,none⟩) D.length dc)).setCell ⟨B,1,none⟩ (.slice (some ⟨ka,0,none⟩) K.length kc)).setCell ⟨B,2,none⟩ (.slice (some ⟨la,0,none⟩) L.length lc)) B da ka la dc kc lc D K L:=by
 have g1:=a0g W B 0 (.slice (some ⟨da,0,none⟩) D.length dc);have k1:=h5.set 0 (.slice (some ⟨da,0,none⟩) D.length dc);have g2:=a0g (W.setCell ⟨B,0,none⟩ (.slice (some ⟨da,0,none⟩) D.length dc)) B 1 (.slice (some ⟨ka,0,none⟩) K.length kc);have k2:=k1.set 1 (.slice (some ⟨ka,0,none⟩) K.length kc);have g3:=a0g ((W.setCell ⟨B,0,none⟩ (.slice (some ⟨da,0,none⟩) D.length dc)).setCell ⟨B,1,none⟩ (.slice (some ⟨ka,0,none⟩) K.length kc)) B 2 (.slice (some ⟨la,0,none⟩) L.length lc);have k3:=k2.set 2 (.slice (some ⟨la,0,none⟩) L.length lc);have r:∀ {t:Td} {s n:Nat} {v:Vu} {xs:List Value},W.ownsRow base t s v n xs->t≠45->World.ownsRow _ n0 t s v n xs:=λh ht=>a5r (a1b (a1b (a1b h g1 h5 ht) g2 k1 ht) g3 k2 ht) hb
 exact⟨r h1 jM,r h2 jM,r h3 jM,by simpa using k3,hB,by simpa using hz⟩
theorem PR3.up (h:PR3 n0 W B da ka la dc kc lc D K L)(hb:Below W.heap.size W W'):PR3 n0 W' B da ka la dc kc lc D K L :=
 ⟨a0r h.d hb,a0r h.k hb,a0r h.l hb,h.b.below hb h.b.lt,h.n,Nat.le_trans h.z hb.size⟩
theorem PR3.dots (h:PR3 n0 W B da ka la dc kc lc D K L){D':List Dt}{g' c':Nat}(hg:W.grownBy W' (some da))(hr:W'.ownsRow n0 54 4 (.slice (some ⟨g',0,none⟩) D'.length c') D'.length (D'.flatMap dtE.enc)) :
 Blk W' B #[.slice (some ⟨da,0,none⟩) D.length dc,.slice (some ⟨ka,0,none⟩) K.length kc,.slice (some ⟨la,0,none⟩) L.length lc] 45/\PR3 n0 (W'.setCell ⟨B,0,none⟩ (.slice (some ⟨g',0,none⟩) D'.length c')) B g' ka la c' kc lc D' K L:=by
 obtain⟨cd,kd⟩:=a2j h.d rfl;have k1:=h.b.keep hg kd jM;have g2:=a0g W' B 0 (.slice (some ⟨g',0,none⟩) D'.length c');exact⟨k1,a1b hr g2 k1 jM,a1b (a1b h.k hg kd jM) g2 k1 jM,a1b (a1b h.l hg kd jM) g2 k1 jM,by simpa using k1.set 0 (.slice (some ⟨g',0,none⟩) D'.length c'),h.n,by simpa using Nat.le_trans h.z hg.size⟩
theorem PR3.keys (h:PR3 n0 W B da ka la dc kc lc D K L){K':List Ke}{g' c':Nat}(hg:W.grownBy W' (some ka))(hr:W'.ownsRow n0 82 3 (.slice (some ⟨g',0,none⟩) K'.length c') K'.length (K'.flatMap keE.enc)) :
 Blk W' B #[.slice (some ⟨da,0,none⟩) D.length dc,.slice (some ⟨ka,0,none⟩) K.length kc,.slice (some ⟨la,0,none⟩) L.length lc] 45/\PR3 n0 (W'.setCell ⟨B,1,none⟩ (.slice (some ⟨g',0,none⟩) K'.length c')) B da g' la dc c' lc D K' L:=by
 obtain⟨cd,kd⟩:=a2j h.k rfl;have k1:=h.b.keep hg kd jM;have g2:=a0g W' B 1 (.slice (some ⟨g',0,none⟩) K'.length c');exact⟨k1,a1b (a1b h.d hg kd jM) g2 k1 jM,a1b hr g2 k1 jM,a1b (a1b h.l hg kd jM) g2 k1 jM,by simpa using k1.set 1 (.slice (some ⟨g',0,none⟩) K'.length c'),h.n,by simpa using Nat.le_trans h.z hg.size⟩
theorem PR3.left (h:PR3 n0 W B da ka la dc kc lc D K L){L':List Lf}{g' c':Nat}(hg:W.grownBy W' (some la))(hr:W'.ownsRow n0 68 3 (.slice (some ⟨g',0,none⟩) L'.length c') L'.length (L'.flatMap lfE.enc)) :
 Blk W' B #[.slice (some ⟨da,0,none⟩) D.length dc,.slice (some ⟨ka,0,none⟩) K.length kc,.slice (some ⟨la,0,none⟩) L.length lc] 45/\PR3 n0 (W'.setCell ⟨B,2,none⟩ (.slice (some ⟨g',0,none⟩) L'.length c')) B da ka g' dc kc c' D K L':=by
 obtain⟨cd,kd⟩:=a2j h.l rfl;have k1:=h.b.keep hg kd jM;have g2:=a0g W' B 2 (.slice (some ⟨g',0,none⟩) L'.length c');exact⟨k1,a1b (a1b h.d hg kd jM) g2 k1 jM,a1b (a1b h.k hg kd jM) g2 k1 jM,a1b hr g2 k1 jM,by simpa using k1.set 2 (.slice (some ⟨g',0,none⟩) L'.length c'),h.n,by simpa using Nat.le_trans h.z hg.size⟩
theorem PR3.setD (h:PR3 n0 W B da ka la dc kc lc D K L){p i:Nat}(hp:p<D.length)(hi:i<4){y:Dt}{u:Vu}(he:dtE.enc y=(dtE.enc D[p]).set i u):PR3 n0 (W.setCell ⟨da,p*4+i,none⟩ u) B da ka la dc kc lc (D.set p y) K L:=by
 obtain⟨cd,kd⟩:=a2j h.d rfl;have hg:=a0g W da (p*4+i) u;have:=El.setRow a4t h.d hp hi he;have hb:=h.b.keep hg kd jM;rw[show D.length=(D.set p y).length by simp]at hb;exact⟨by rw[List.length_set]at this ⊢;exact this,a1b h.k hg kd jM,a1b h.l hg kd jM,hb,h.n,by simpa using h.z⟩
theorem PR3.setK (h:PR3 n0 W B da ka la dc kc lc D K L){p i:Nat}(hp:p<K.length)(hi:i<3){y:Ke}{u:Vu}(he:keE.enc y=(keE.enc K[p]).set i u):PR3 n0 (W.setCell ⟨ka,p*3+i,none⟩ u) B da ka la dc kc lc D (K.set p y) L:=by
 obtain⟨cd,kd⟩:=a2j h.k rfl;have hg:=a0g W ka (p*3+i) u;have:=El.setRow b4r h.k hp hi he;have hb:=h.b.keep hg kd jM;rw[show K.length=(K.set p y).length by simp]at hb;exact⟨a1b h.d hg kd jM,by rw[List.length_set]at this ⊢;exact this,a1b h.l hg kd jM,hb,h.n,by simpa using h.z⟩
theorem PR3.setL (h:PR3 n0 W B da ka la dc kc lc D K L){p i:Nat}(hp:p<L.length)(hi:i<3){y:Lf}{u:Vu}(he:lfE.enc y=(lfE.enc L[p]).set i u):PR3 n0 (W.setCell ⟨la,p*3+i,none⟩ u) B da ka la dc kc lc D K (L.set p y):=by
 obtain⟨cd,kd⟩:=a2j h.l rfl;have hg:=a0g W la (p*3+i) u;have:=El.setRow a9w h.l hp hi he;have hb:=h.b.keep hg kd jM;rw[show L.length=(L.set p y).length by simp]at hb;exact⟨a1b h.d hg kd jM,a1b h.k hg kd jM,by rw[List.length_set]at this ⊢;exact this,hb,h.n,by simpa using h.z⟩
end
section
variable {n0:Nat}{W W':Wd}{B da ka la dc kc lc:Nat}{D:List Dt}{K:List Ke}{L:List Lf}
theorem a7p {α:Type}{E:El α}(hE:E.Ok){base g cap:Nat}{l:List α}(h:W.ownsRow base E.t E.s (.slice (some ⟨g,0,none⟩) l.length cap) l.length (l.flatMap E.enc))(hl:l.length<=100000){p i:Nat}(hp:p<l.length)(hi:i<E.s):W.cell? ⟨g,p*E.s+i,none⟩=(E.enc l[p])[i]?/\W.frozen? ⟨g,p*E.s+i,none⟩=false:=by
 obtain⟨b',fh,aI,e,-,-,hc⟩:=(a0d hE h oM).some_ oM;simp only[Value.slice.injEq,Option.some.injEq,Addr.mk.injEq]at e;obtain⟨⟨rfl,rfl,-⟩,-,-⟩:=e;have h1:=hc p hp i hi;rw[Nat.zero_add]at h1;exact⟨h1,h.frozenAt _⟩
theorem c6f {t:Td}{s n:Nat}{v:Vu}{xs:List Value}(h:W.ownsRow n0 t s v n xs)(hn:0<n):∃g c,v= .slice (some ⟨g,0,none⟩) n c:=by
 rcases h.2 with⟨-,h2⟩|⟨g,cap,cur,h1,-⟩
 ·omega
 ·exact⟨g,cap,h1⟩
theorem Lst.form_cap {α:Type}{E:El α}{n0:Nat}{W:Wd}{a:Option Addr}{len cap:Nat}{l:List α}(h:Lst E n0 W (.slice a len cap) l):l.length<=cap:=by
 obtain⟨a',c',e,h1⟩:=h.form;simp only[Value.slice.injEq]at e;omega
theorem b4i {α:Type}{E:El α}(hE:E.Ok){base g pc:Nat}{l:List α}(h:W.ownsRow base E.t E.s (.slice (some ⟨g,0,none⟩) l.length pc) l.length (l.flatMap E.enc)){k:Nat}(hk:k<=l.length):W.ownsRow base E.t E.s (.slice (some ⟨g,0,none⟩) k pc) (l.take k).length ((l.take k).flatMap E.enc):=by
 have aR:(l.take k).length=k:=by rw[List.length_take];omega
 have hf:(l.take k).flatMap E.enc=(l.flatMap E.enc).take (k*E.s):=by
  have e:(l.take k).flatMap E.enc++(l.drop k).flatMap E.enc=l.flatMap E.enc:=by rw[<-List.flatMap_append,List.take_append_drop]
  rw[<-e,List.take_left' (by rw[a0w hE,aR])]
 rw[aR,hf];have hm:k*E.s<=l.length*E.s:=Nat.mul_le_mul_right _ hk;obtain⟨h1,⟨h2,-⟩|⟨g',aI,cur,h2,h3,h4,h5,h6,h7,h8⟩⟩:=h
 ·cases h2
 ·cases h2
  refine⟨by rw[List.length_take,h1];omega,.inr ⟨g,pc,cur,rfl,h3,h4,oM,h6,h7,?_⟩⟩;rw[<-h8,List.take_take,Nat.min_eq_left hm]
structure PO (w:Wd)(B2 B4 B5 n:Nat)(W:Wd):Prop where
 ex:∃da ka la dc kc lc D K L,PR3 B2 W B5 da ka la dc kc lc D K L/\PlW n ⟨D,K,L⟩
 bel:Below B2 w W
 b4:Blk W B4 #[.slice none 0 0,.slice none 0 0,.slice none 0 0] 45
theorem PO.up {w W W':Wd}{B2 B4 B5 n:Nat}(h:PO w B2 B4 B5 n W)(hb:Below W.heap.size W W'):PO w B2 B4 B5 n W':=by
 obtain⟨⟨da,ka,la,dc,kc,lc,D,K,L,h1,h2⟩,h3,h4⟩:=h;exact⟨⟨_,_,_,_,_,_,_,_,_,h1.up hb,h2⟩,h3.trans (hb.mono (Nat.le_trans h1.z (yR _))),h4.below hb h4.lt⟩
theorem PO.mk' {w W W':Wd}{B2 B4 B5 n g i:Nat}{da ka la dc kc lc:Nat}{D:List Dt}{K:List Ke}{L:List Lf}{u:Vu}{cur:Array Value}{tg:Td}(hg:W.grownBy W' (some g))(k:Blk W g cur tg)(ht:45≠tg)(FY:B2<=g)(hz:B2<=W.heap.size)(h3:Below B2 w W)(h4:Blk W B4 #[.slice none 0 0,.slice none 0 0,.slice none 0 0] 45)(aZ:B2<=B5)(av:B4≠B5)
 (h1:PR3 B2 (W'.setCell ⟨B5,i,none⟩ u) B5 da ka la dc kc lc D K L) (h2:PlW n ⟨D,K,L⟩):PO w B2 B4 B5 n (W'.setCell ⟨B5,i,none⟩ u):=by
 have Nb:=h4.keep hg k ht;exact⟨⟨_,_,_,_,_,_,_,_,_,h1,h2⟩,(h3.trans (a1l hg hz (λj e=>by cases e;exact FY))).setCell aZ _,((a0g W' B5 i u).block B4 Nb.lt (by simpa using av)).trans Nb⟩
theorem b6h (W:Wd)(o:Option Nat):W.grownBy W o:=⟨rfl,rfl,rfl,yR _,λ_ _ _=>rfl⟩
theorem PR3.out {a b d:Vu}{B4:Nat}{c:Array Value}(h:PR3 n0 W B da ka la dc kc lc D K L)(k4:Blk W B4 c 45)(hD:D.length<=100000)(hK:K.length<=100000)(hL:L.length<=100000) :
 PlanIn (((W.setCell ⟨B4,0,none⟩ a).setCell ⟨B4,1,none⟩ b).setCell ⟨B4,2,none⟩ d) (a1t (.slice (some ⟨da,0,none⟩) D.length dc) (.slice (some ⟨ka,0,none⟩) K.length kc) (.slice (some ⟨la,0,none⟩) L.length lc)) ⟨D,K,L⟩:=by
 have g1:=a0g W B4 0 a;have k1:=k4.set 0 a;have g2:=a0g (W.setCell ⟨B4,0,none⟩ a) B4 1 b;have k2:=k1.set 1 b;have g3:=a0g ((W.setCell ⟨B4,0,none⟩ a).setCell ⟨B4,1,none⟩ b) B4 2 d;have r:∀ {t:Td} {s n:Nat} {v:Vu} {xs:List Value},W.ownsRow n0 t s v n xs->t≠45->World.ownsRow _ n0 t s v n xs:=λh ht=>a1b (a1b (a1b h g1 k4 ht) g2 k1 ht) g3 k2 ht
 have h1:=r h.d jM;have h2:=r h.k jM;have h3:=r h.l jM;exact⟨_,_,_,rfl,⟨a0d a4t h1 (Nat.le_trans hD jM),a7l h1⟩,⟨a0d b4r h2 (Nat.le_trans hK jM),a7l h2⟩,a0d a9w h3 (Nat.le_trans hL jM),a7l h3⟩
theorem d2f {t:Td}{s n:Nat}{v:Vu}{xs:List Value}{g:Nat}(h:W.ownsRow n0 t s v n xs)(e:v.ownBlock=some g):n0<=g:=(h.lt g e).1
theorem PlW.dot {n:Nat}(h:PlW n ⟨D,K,L⟩){ix:Nat}{y:Dt}(hy:(-(1000+10*((n+1:Nat):Int))<=y.x/\y.x<=1000+10*((n+1:Nat):Int)) /\ -(1000+10*((n+1:Nat):Int))<=y.y/\y.y<=1000+10*((n+1:Nat):Int)):PlW (n+1) ⟨D.set ix y,K,L⟩:=by
 have h':=h.mono (Nat.le_succ n);refine⟨λd hd=> ?_,by simpa using h.dl,h'.kc,h.kl,h.lf,h'.ll⟩;rcases List.mem_or_eq_of_mem_set hd with h1|rfl
 ·exact h'.dx d h1
 ·exact hy
theorem PlW.dots {n:Nat}(h:PlW n ⟨D,K,L⟩){D':List Dt}(hs:∀d∈D',d∈D)(hl:D'.length<=D.length):PlW (n+1) ⟨D',K,L⟩:=by
 have h':=h.mono (Nat.le_succ n);exact⟨λd hd=>h'.dx d (hs d hd),Nat.le_trans hl h.dl,h'.kc,h.kl,h.lf,h'.ll⟩
theorem PlW.key {n:Nat}(h:PlW n ⟨D,K,L⟩){ix:Nat}{y:Ke}(hy:y.c.size<=100000+(n+1)):PlW (n+1) ⟨D,K.set ix y,L⟩:=by
 have h':=h.mono (Nat.le_succ n);refine⟨h'.dx,h.dl,λd hd=> ?_,by simpa using h.kl,h.lf,h'.ll⟩;rcases List.mem_or_eq_of_mem_set hd with h1|rfl
 ·exact h'.kc d h1
 ·exact hy
theorem PlW.keys {n:Nat}(h:PlW n ⟨D,K,L⟩){K':List Ke}(hs:∀d∈K',d∈K)(hl:K'.length<=K.length):PlW (n+1) ⟨D,K',L⟩:=by
 have h':=h.mono (Nat.le_succ n);exact⟨h'.dx,h.dl,λd hd=>h'.kc d (hs d hd),Nat.le_trans hl h.kl,h.lf,h'.ll⟩
theorem PlW.leftS {n:Nat}(h:PlW n ⟨D,K,L⟩){ix:Nat}{y:Lf}(hy:fits y.i):PlW (n+1) ⟨D,K,L.set ix y⟩:=by
 have h':=h.mono (Nat.le_succ n);refine⟨h'.dx,h.dl,h'.kc,h.kl,λd hd=> ?_,by simpa using h'.ll⟩;rcases List.mem_or_eq_of_mem_set hd with h1|rfl
 ·exact h.lf d h1
 ·exact hy
theorem PlW.lefts {n:Nat}(h:PlW n ⟨D,K,L⟩){L':List Lf}(hs:∀d∈L',d∈L\/fits d.i)(hl:L'.length<=L.length+1):PlW (n+1) ⟨D,K,L'⟩:=by
 have h':=h.mono (Nat.le_succ n);exact⟨h'.dx,h.dl,h'.kc,h.kl,λd hd=>(hs d hd).elim (h.lf d) id,by have:=h.ll;simp only at this ⊢;omega⟩
theorem d2g {α:Type}{l:List α}{k:Nat}{x:α}(h:x∈l.take k++l.drop (k+1)):x∈l:=(List.mem_append.1 h).elim List.mem_of_mem_take List.mem_of_mem_drop
theorem d2h {α:Type}(l:List α)(k:Nat):(l.take k++l.drop (k+1)).length<=l.length:=by rw[List.length_append,List.length_take,List.length_drop];omega
theorem d2i (q:Int):∃x:Int,(if(if q<wrap64 (-q)then wrap64 (-q)else q)<0 then 0 else if q<wrap64 (-q)then wrap64 (-q)else q)=x/\0<=x:=⟨_,rfl,by split <;> omega⟩
theorem d2j (x:Int)(h0:0<=x)(m:Nat)(hm:0<m):∃k:Nat,x % (m:Int)=(k:Int)/\k<m:=by
 have h1:=Int.emod_nonneg x (show(m:Int)≠0 by omega);have h2:=Int.emod_lt_of_pos x (show(0:Int)<(m:Int) by omega);exact⟨(x % (m:Int)).toNat,oM,oM⟩
theorem b8f (k:Nat){m:Nat}(hm:0<m):∃ix:Nat,Int.tmod (k:Int) (m:Int)=(ix:Int)/\ix<m:=⟨k % m,by rw[Int.tmod_eq_emod_of_nonneg oM];omega,Nat.mod_lt _ hm⟩
end
structure CpR (wr:Wd)(B2:Nat)(dv kv lv:Vu)(D:List Dt)(K:List Ke)(L:List Lf)(W:Wd):Prop where
 bel:Below wr.heap.size wr W
 c0:W.cell? ⟨B2,0,none⟩=some dv
 c1:W.cell? ⟨B2,1,none⟩=some kv
 c2:W.cell? ⟨B2,2,none⟩=some lv
 d:Lst dtE W.heap.size W dv D
 k:Lst keE W.heap.size W kv K
 l:Lst lfE W.heap.size W lv L
theorem CpR.up {wr W W':Wd}{B2:Nat}{dv kv lv:Vu}{D:List Dt}{K:List Ke}{L:List Lf}(h:CpR wr B2 dv kv lv D K L W)(hb:Below W.heap.size W W'):CpR wr B2 dv kv lv D K L W' :=
 ⟨h.bel.trans (hb.mono h.bel.size),a0e hb h.c0,a0e hb h.c1,a0e hb h.c2,h.d.up hb,h.k.up hb,h.l.up hb⟩
def FCq (wr:Wd)(B2:Nat)(dv kv lv:Vu)(D:List Dt)(K:List Ke)(L:List Lf)(i:Nat)(v:Vu)(w:Wd):Prop :=
 match i with
 |0=>∃Z,v= .slice (some ⟨Z,0,none⟩) 0 0/\wr.heap.size<=Z/\Blk w Z #[] 54
 |1=>v= .pointer (some ⟨B2,0,none⟩)
 |2=>v=dv
 |3=>∃g c,v= .slice (some ⟨g,0,none⟩) D.length c/\w.ownsRow wr.heap.size 54 4 v D.length (D.flatMap dtE.enc)
 |4=>∃Z,v= .slice (some ⟨Z,0,none⟩) 0 0/\wr.heap.size<=Z/\Blk w Z #[] 82
 |5=>v= .pointer (some ⟨B2,1,none⟩)
 |6=>v=kv
 |7=>∃g c,v= .slice (some ⟨g,0,none⟩) K.length c/\w.ownsRow wr.heap.size 82 3 v K.length (K.flatMap keE.enc)
 |8=>∃Z,v= .slice (some ⟨Z,0,none⟩) 0 0/\wr.heap.size<=Z/\Blk w Z #[] 68
 |9=>v= .pointer (some ⟨B2,2,none⟩)
 |10=>v=lv
 |11=>∃g c,v= .slice (some ⟨g,0,none⟩) L.length c/\w.ownsRow wr.heap.size 68 3 v L.length (L.flatMap lfE.enc)
 |12=>∃ga ca gb cb gc cc,v= .agg #[.slice (some ⟨ga,0,none⟩) D.length ca,.slice (some ⟨gb,0,none⟩) K.length cb,.slice (some ⟨gc,0,none⟩) L.length cc]/\w.ownsRow wr.heap.size 54 4 (.slice (some ⟨ga,0,none⟩) D.length ca) D.length (D.flatMap dtE.enc)/\w.ownsRow wr.heap.size 82 3 (.slice (some ⟨gb,0,none⟩) K.length cb) K.length (K.flatMap keE.enc)/\w.ownsRow wr.heap.size 68 3 (.slice (some ⟨gc,0,none⟩) L.length cc) L.length (L.flatMap lfE.enc)
 |13=>∃Z,v= .pointer (some ⟨Z,0,none⟩)/\wr.heap.size<=Z/\Blk w Z #[.slice none 0 0,.slice none 0 0,.slice none 0 0] 45
 |_=>False
theorem FCq.kept {wr:Wd}{B2:Nat}{dv kv lv:Vu}{D:List Dt}{K:List Ke}{L:List Lf}{i:Nat}{v:Vu}{w w':Wd}(h:FCq wr B2 dv kv lv D K L i v w)(hg:Below w.heap.size w w'):FCq wr B2 dv kv lv D K L i v w':=by
 unfold FCq at *;split at h
 all_goals first|exact h|(obtain⟨Z,h1,h2,h3⟩:=h;exact⟨Z,h1,h2,h3.below hg h3.lt⟩)|(obtain⟨g,c,h1,h2⟩:=h;exact⟨g,c,h1,a0r h2 hg⟩)|(obtain⟨ga,ca,gb,cb,gc,cc,h1,h2,h3,h4⟩:=h;exact⟨ga,ca,gb,cb,gc,cc,h1,a0r h2 hg,a0r h3 hg,a0r h4 hg⟩)
theorem b8g (n:Nat)(hn:n<=5)(dv kv lv:Vu)(q0 q1 q2:Int)(pl:Pn)(w:Wd)(hP:PlanIn w (a1t dv kv lv) pl)(hw:PlW n pl) :
 Calls prog 18 #[a1t dv kv lv,.agg #[.int .i64 q0,.int .i64 q1,.int .i64 q2]] w λe w'=>∃v Nc,e= .returned v/\PlanIn w' v Nc/\PlW (n+1) Nc/\Below w.heap.size w w':=by
 obtain⟨U4,U5,HP,e,⟨hd,Ku⟩,⟨hk,Kv⟩,hl,Kw⟩:=hP.ex
 cases e;obtain⟨D,K,L⟩:=pl;simp only at hd hk hl Ku Kv Kw;have mF:D.length<=100000:=Nat.le_trans hw.dl jM;have oO:K.length<=100000:=Nat.le_trans hw.kl jM;have mh:L.length<=100000:=Nat.le_trans hw.ll oM;go_enter func18,ntmps18;go_upto_region 1 with fail;have k2:=((Blk.new w #[dv,kv,lv] 45).alloc (.cells #[.int .i64 q0,.int .i64 q1,.int .i64 q2] 23)).alloc (.cells #[.slice none 0 0,.slice none 0 0,.slice none 0 0] 45);have k3:=(Blk.new (w.alloc (.cells #[dv,kv,lv] 45)) #[.int .i64 q0,.int .i64 q1,.int .i64 q2] 23).alloc (.cells #[.slice none 0 0,.slice none 0 0,.slice none 0 0] 45);have k4:=Blk.new ((w.alloc (.cells #[dv,kv,lv] 45)).alloc (.cells #[.int .i64 q0,.int .i64 q1,.int .i64 q2] 23)) #[.slice none 0 0,.slice none 0 0,.slice none 0 0] 45;have aE:Below w.heap.size w (((w.alloc (.cells #[dv,kv,lv] 45)).alloc (.cells #[.int .i64 q0,.int .i64 q1,.int .i64 q2] 23)).alloc (.cells #[.slice none 0 0,.slice none 0 0,.slice none 0 0] 45)):=(((zR _ _).alloc (yR _) _).alloc vM _).alloc uM _;obtain⟨W1,aH⟩:=zE (((w.alloc (.cells #[dv,kv,lv] 45)).alloc (.cells #[.int .i64 q0,.int .i64 q1,.int .i64 q2] 23)).alloc (.cells #[.slice none 0 0,.slice none 0 0,.slice none 0 0] 45));simp only[World.size_alloc]at k3 k4;obtain⟨B2,aG⟩:=zE w.heap.size;rw[aH]at k2 k3 k4 aE ⊢;rw[aG]at k2 k3 k4 aE ⊢;have R7:w.heap.size<=B2:=oM;have mI:=hd.up (aG▸aE);have jR:=hk.up (aG▸aE);have jt:=hl.up (aG▸aE);clear aH hd hk hl hP;have aW:B2<=W1.heap.size:=by have:=k2.lt;omega
 have R8:=k4.lt;refine Go.wp_region_rel 14 zM zM (λ_ W=>CpR W1 B2 dv kv lv D K L W) (λw w'=>Below w.heap.size w w') (FCq W1 B2 dv kv lv D K L) (λ_ _ _ _ h g=>h.kept g) ⟨(zR _ _).drew,k2.cell 0,k2.cell 1,k2.cell 2,mI.up (zR _ _).drew,jR.up (zR _ _).drew,jt.up (zR _ _).drew⟩ ?step1 ?tail1
 case step1 =>
  clear k2 k3 k4 aE mI jR jt hw;intro i o hi ho c bb W hc hM hA hD K' hK;match i,hi,ho with
  |0,_,ho =>
   exact ydh
  |1,_,ho =>
   cases ho;have f2:=a0a (v:= .pointer (some ⟨B2,0,none⟩)) (hA.at_ (k:=2) zM);go_simp;exact hK (.pointer (some ⟨B2,0,none⟩)) W rfl (zR _ _) hM
  |2,_,ho =>
   cases ho;have f9:=a0a (v:= .pointer (some ⟨B2,0,none⟩)) (a0b hD 1 9 zM rfl rfl);have z0:W.cell? ⟨B2,0,none⟩=some (dv):=hM.c0;go_simp;exact hK (dv) W rfl (zR _ _) hM
  |3,_,ho =>
   cases ho;have f8:=a0b hD 0 8 zM rfl rfl;have f10:=a0a (v:=dv) (a0b hD 2 10 zM rfl rfl);obtain⟨Z,h1,h2,h3⟩:=f8;refine El.step_freshO a4t e0b _ _ qM _ Z h1 (a6u h3 h2) _ D (b3m f10) hM.d Ku mF hM.bel.size ?_;exact ygy
  |4,_,ho =>
   exact ydh
  |5,_,ho =>
   cases ho;have f2:=a0a (v:= .pointer (some ⟨B2,0,none⟩)) (hA.at_ (k:=2) zM);go_simp;exact hK (.pointer (some ⟨B2,1,none⟩)) W rfl (zR _ _) hM
  |6,_,ho =>
   cases ho;have f13:=a0a (v:= .pointer (some ⟨B2,1,none⟩)) (a0b hD 5 13 zM rfl rfl);have z0:W.cell? ⟨B2,1,none⟩=some (kv):=hM.c1;go_simp;exact hK (kv) W rfl (zR _ _) hM
  |7,_,ho =>
   cases ho;have f12:=a0b hD 4 12 zM rfl rfl;have f14:=a0a (v:=kv) (a0b hD 6 14 zM rfl rfl);obtain⟨Z,h1,h2,h3⟩:=f12;refine El.step_freshO b4r e2b _ _ qM _ Z h1 (a6u h3 h2) _ K (b3m f14) hM.k Kv oO hM.bel.size ?_;exact ygy
  |8,_,ho =>
   exact ydh
  |9,_,ho =>
   cases ho;have f2:=a0a (v:= .pointer (some ⟨B2,0,none⟩)) (hA.at_ (k:=2) zM);go_simp;exact hK (.pointer (some ⟨B2,2,none⟩)) W rfl (zR _ _) hM
  |10,_,ho =>
   cases ho;have f17:=a0a (v:= .pointer (some ⟨B2,2,none⟩)) (a0b hD 9 17 zM rfl rfl);have z0:W.cell? ⟨B2,2,none⟩=some (lv):=hM.c2;go_simp;exact hK (lv) W rfl (zR _ _) hM
  |11,_,ho =>
   cases ho;have f16:=a0b hD 8 16 zM rfl rfl;have f18:=a0a (v:=lv) (a0b hD 10 18 zM rfl rfl);obtain⟨Z,h1,h2,h3⟩:=f16;refine El.step_freshO a9w d7z _ _ qM _ Z h1 (a6u h3 h2) _ L (b3m f18) hM.l Kw mh hM.bel.size ?_;exact ygy
  |12,_,ho =>
   cases ho;have f11:=a0b hD 3 11 zM rfl rfl;have f15:=a0b hD 7 15 zM rfl rfl;have f19:=a0b hD 11 19 zM rfl rfl;obtain⟨ga,ca,a1,a2⟩:=f11;obtain⟨gb,cb,b1,b2⟩:=f15;obtain⟨gc,cc,c1,c2⟩:=f19;rw[a1]at a2;rw[b1]at b2;rw[c1]at c2;have Iu:=a0a a1;have Iv:=a0a b1;have U6:=a0a c1;go_simp;exact hK _ W ⟨ga,ca,gb,cb,gc,cc,rfl,a2,b2,c2⟩ (zR _ _) hM
  |13,_,ho =>
   exact yfr
  |i+14,hi,_=>exact absurd hi oM
 case tail1 =>
  intro bb W hM hA ah;obtain⟨da,dc,ka,kc,la,lc,Nd,iV,Ey,Ez⟩:=(show ∃ga ca gb cb gc cc,bb.eval (.tmp 20)= .agg #[.slice (some ⟨ga,0,none⟩) D.length ca,.slice (some ⟨gb,0,none⟩) K.length cb,.slice (some ⟨gc,0,none⟩) L.length cc]/\W.ownsRow W1.heap.size 54 4 (.slice (some ⟨ga,0,none⟩) D.length ca) D.length (D.flatMap dtE.enc)/\W.ownsRow W1.heap.size 82 3 (.slice (some ⟨gb,0,none⟩) K.length cb) K.length (K.flatMap keE.enc)/\W.ownsRow W1.heap.size 68 3 (.slice (some ⟨gc,0,none⟩) L.length cc) L.length (L.flatMap lfE.enc)from ah 12 oM _ _ rfl rfl);obtain⟨B5,e5,fQ,k5⟩:=(show ∃Z,bb.eval (.tmp 5)= .pointer (some ⟨Z,0,none⟩)/\W1.heap.size<=Z/\Blk W Z #[.slice none 0 0,.slice none 0 0,.slice none 0 0] 45 from ah 13 oM _ _ rfl rfl);have aC:=hA.frame (rT 5 (rF 1 (rT 2 (rF 13 (rT 223 ([])))))) _ rfl zM;clear ah hA;obtain⟨f,hf⟩:=zDt bb;have g20:f 20= .agg #[.slice (some ⟨da,0,none⟩) D.length dc,.slice (some ⟨ka,0,none⟩) K.length kc,.slice (some ⟨la,0,none⟩) L.length lc]:=by rw[<-hf,<-Nd];rfl
  have g5:f 5= .pointer (some ⟨B5,0,none⟩):=by rw[<-hf,<-e5];rfl
  rw[hf]at aC;clear hf Nd e5;subst aC;simp only[rT,rF,a2d,g20,g5,Nat.reduceAdd];clear g20 g5;simp only[zU];have vS:=hM.bel;have za:=k3.below vS k3.lt;have EA:=k4.below vS k4.lt;have Kz:Below B2 w W:=aE.trans (vS.mono aW);have R9:=Kz.size;have Nf:=vS.size;have y0:W.cell? ⟨B5,0,none⟩=some (.slice none 0 0):=k5.cell 0;have y1:W.cell? ⟨B5,1,none⟩=some (.slice none 0 0):=k5.cell 1;have y2:W.cell? ⟨B5,2,none⟩=some (.slice none 0 0):=k5.cell 2;have z0:W.frozen? ⟨B5,0,none⟩=false:=k5.frozen 0;have z1:W.frozen? ⟨B5,1,none⟩=false:=k5.frozen 1;have z2:W.frozen? ⟨B5,2,none⟩=false:=k5.frozen 2;clear hM k2 k3 k4 aE vS mI jR jt;go_upto_region 2 with fail;have cY:=PR3.init (n0:=B2) iV Ey Ez k5 aW (Nat.le_trans aW fQ) (Nat.le_trans aW Nf);have jN:B2+1≠B5:=λe=>by rw[e]at za;have:=za.symm.trans k5;simp at this
  have mO:B2+1+1≠B5:=oM;obtain⟨W2,bV⟩:=zE (((W.setCell ⟨B5,0,none⟩ (.slice (some ⟨da,0,none⟩) D.length dc)).setCell ⟨B5,1,none⟩ (.slice (some ⟨ka,0,none⟩) K.length kc)).setCell ⟨B5,2,none⟩ (.slice (some ⟨la,0,none⟩) L.length lc));have F9:Blk W2 (B2+1) #[.int .i64 q0,.int .i64 q1,.int .i64 q2] 23:=by
   rw[<-bV];exact(((a0g _ _ _ _).block _ (by simpa using za.lt) (by simpa using jN)).trans (((a0g _ _ _ _).block _ (by simpa using za.lt) (by simpa using jN)).trans ((a0g _ _ _ _).block _ za.lt (by simpa using jN)))).trans za
  have pP:Blk W2 (B2+1+1) #[.slice none 0 0,.slice none 0 0,.slice none 0 0] 45:=by
   rw[<-bV];exact(((a0g _ _ _ _).block _ (by simpa using EA.lt) (by simpa using mO)).trans (((a0g _ _ _ _).block _ (by simpa using EA.lt) (by simpa using mO)).trans ((a0g _ _ _ _).block _ EA.lt (by simpa using mO)))).trans EA
  have aZ:B2<=B5:=Nat.le_trans aW fQ;have sM:Below B2 w W2:=by
   rw[<-bV];exact((Kz.setCell aZ _).setCell aZ _).setCell aZ _
  rw[bV]at cY ⊢;clear bV iV Ey Ez k5 fQ za EA Kz R9 Nf y0 y1 y2 z0 z1 z2 aW mF oO mh Ku Kv Kw;have i0:W2.cell? ⟨B2+1,0,none⟩=some (.int .i64 q0):=F9.cell 0;have i1:W2.cell? ⟨B2+1,1,none⟩=some (.int .i64 q1):=F9.cell 1;have i2:W2.cell? ⟨B2+1,2,none⟩=some (.int .i64 q2):=F9.cell 2;go_upto_block 0 with fail;obtain⟨x1,gB,p1⟩:=d2i q1;obtain⟨x2,mC,p2⟩:=d2i q2;obtain⟨x0,nX,p0⟩:=d2i q0;rw[nX,gB,mC];obtain⟨k,hk,pB⟩:=d2j x1 p1 300 jM;obtain⟨nn,iQ,U7⟩:=d2j x2 p2 5 jM;obtain⟨r,hr,aU⟩:=d2j x0 p0 9 jM;rw[show((300:Nat):Int)=300 from rfl]at hk;rw[show((5:Nat):Int)=5 from rfl]at iQ;rw[show((9:Nat):Int)=9 from rfl]at hr;rw[hk,iQ,hr];clear hk iQ hr i0 i1 i2 F9 jN nX gB mC p0 p1 p2;go_cut [] (λwx=>PO w B2 (B2+1+1) B5 (n+1) wx)
  case first =>
   have jB:=hw.dl;have Am:=hw.kl;have En:=hw.ll;simp only at jB Am En;have b0:W2.cell? ⟨B5,0,none⟩=some (.slice (some ⟨da,0,none⟩) D.length dc):=cY.b.cell 0;have b1:W2.cell? ⟨B5,1,none⟩=some (.slice (some ⟨ka,0,none⟩) K.length kc):=cY.b.cell 1;have b2:W2.cell? ⟨B5,2,none⟩=some (.slice (some ⟨la,0,none⟩) L.length lc):=cY.b.cell 2;have Bg:B2<=da:=d2f cY.d rfl;have nc:B2<=ka:=d2f cY.k rfl;have pg:B2<=la:=d2f cY.l rfl;obtain⟨cd,kd⟩:∃c,Blk W2 da c 54:=a2j cY.d rfl;obtain⟨ck,kk⟩:∃c,Blk W2 ka c 82:=a2j cY.k rfl;obtain⟨cl,kl⟩:∃c,Blk W2 la c 68:=a2j cY.l rfl;have bF:=cY.z;have same:PO w B2 (B2+1+1) B5 (n+1) W2:=⟨⟨_,_,_,_,_,_,_,_,_,cY,hw.mono (Nat.le_succ n)⟩,sM,pP⟩;match r,aU with
   |0,_ =>
    as_aux_lemma =>
     by_cases dz:D=[]
     ·exact ycz
     have dZ:0<D.length:=List.length_pos_iff.2 dz;obtain⟨ix,hp,aO⟩:=b8f k dZ;have aR:(D.take ix).length=ix:=by rw[List.length_take];omega
     have bY:D.length<=dc:=(a0d a4t cY.d oM).form_cap;have fF:(D.take ix).length+(D.drop (ix+1)).length<=100000:=by rw[List.length_take,List.length_drop];omega
     have zb:ix+1<=D.length:=aO;have hW:=hw.dots (D':=D.take ix++D.drop (ix+1)) (λd hd=>d2g hd) (d2h D ix);obtain⟨m,hm⟩:=zE D.length;rw[hm]at hp b0 bY zb;obtain⟨jS,th,jG⟩:=zI (show ix<m by omega);have gC:IntKind.i64.wrap ((ix:Int)+1)=(ix:Int)+1:=a0j oM oM;have ot:(ix:Int)+1<=(m:Int):=oM;have Ao:((ix:Int)+1).toNat=ix+1:=oM;have D8:(ix:Int)<=(dc:Int):=oM;replace hm:=Lib.hid hm;clear same dz dZ;go_upto_region 7 with fail;refine zR8 λp=> ?_
     have eR:=cY.up (Go.below_growBy W2 p);have hL:=a0d a4t eR.d oM;have hF:=a7l eR.d;have hT:=a9o (k:=ix+1) hL hF (by have:=hm.out;omega);rw[hm.out]at hT;have e1:Option.map (λx=>Addr.add x ((ix+1)*dtE.s)) (some (⟨da,0,none⟩:Addr))=some ⟨da,(ix+1)*dtE.s,none⟩:=by simp[Addr.add]
     rw[e1]at hT;refine El.joinO (n0:=(W2.growBy p).heap.size) a4t e0b qM _ _ qM B2 qM (D.take ix) (b4i a4t eR.d (by have:=hm.out;omega)) ⟨_,_,by rw[aR]⟩ (D.drop (ix+1)) qM ?hx ?hf fF eR.z ?_
     case hx=>exact yjs
     case hf=>exact yjt
     rintro v9 w9 aU bD⟨g9,c9,rfl⟩ -;obtain⟨l2,du⟩:=zE (D.take ix++D.drop (ix+1));rw[du]at aU hW;simp only[du];obtain⟨k9,hQ⟩:=eR.dots bD aU;have y9:=k9.cell 0;have z9:=k9.frozen 0;have cI:=PO.mk' bD ((kd).below (Go.below_growBy W2 p) (kd).lt) jM Bg eR.z (sM.trans ((Go.below_growBy W2 p).mono bF)) (pP.below (Go.below_growBy W2 p) pP.lt) aZ mO hQ hW;exact yjd
   |1,_ =>
    as_aux_lemma =>
     by_cases dz:D=[]
     ·exact ycz
     have dZ:0<D.length:=List.length_pos_iff.2 dz;obtain⟨ix,hp,aO⟩:=b8f k dZ;obtain⟨c0,z0⟩:=a7p (E:=dtE) a4t cY.d oM aO (i:=0) jM;obtain⟨y,hy⟩:=zE (D[ix]);have oY:y∈D:=by rw[<-hy];exact List.getElem_mem aO
     rw[hy]at c0;replace c0:W2.cell? ⟨da,ix*4,none⟩=some (.int .i64 y.x):=c0;replace z0:W2.frozen? ⟨da,ix*4,none⟩=false:=z0;have P0:=hw.dx y oY;have w1:wrap64 (y.x+(nn:Int))=y.x+(nn:Int):=IntWalk.wrap64_in _ oM;have w2:wrap64 (y.x+(nn:Int)-2)=y.x+(nn:Int)-2:=IntWalk.wrap64_in _ oM;have hX:=cY.setD aO (i:=0) (y:={ y with x:=y.x+(nn:Int)-2 }) (u:= .int .i64 (y.x+(nn:Int)-2)) jM (by rw[hy];rfl);have hW:=hw.dot (ix:=ix) (y:={ y with x:=y.x+(nn:Int)-2 }) ⟨⟨by simp only;omega,by simp only;omega⟩,by simp only;omega,by simp only;omega⟩;have hg:=a0g W2 da (ix*4+0) (.int .i64 (y.x+(nn:Int)-2));have cI:PO w B2 (B2+1+1) B5 (n+1) (W2.setCell ⟨da,ix*4,none⟩ (.int .i64 (y.x+(nn:Int)-2))):=⟨⟨_,_,_,_,_,_,_,_,_,hX,hW⟩,sM.setCell (p:=⟨da,ix*4,none⟩) Bg _,pP.keep hg kd jM⟩;obtain⟨m,hm⟩:=zE D.length;rw[hm]at hp aO b0 dZ;obtain⟨jS,th,jG⟩:=zI (show ix<m by omega);clear same hX hW hg oY hy dz hm dZ cY;go_upto_region 10 with fail;refine zR5 λp=> ?_
     exact yds
   |2,_ =>
    as_aux_lemma =>
     by_cases dz:D=[]
     ·exact ycz
     have dZ:0<D.length:=List.length_pos_iff.2 dz;obtain⟨ix,hp,aO⟩:=b8f k dZ;obtain⟨c0,z0⟩:=a7p (E:=dtE) a4t cY.d oM aO (i:=3) jM;obtain⟨y,hy⟩:=zE (D[ix]);have oY:y∈D:=by rw[<-hy];exact List.getElem_mem aO
     rw[hy]at c0;replace c0:W2.cell? ⟨da,ix*4+3,none⟩=some (.int .i64 y.i):=c0;replace z0:W2.frozen? ⟨da,ix*4+3,none⟩=false:=z0;have hX:=cY.setD aO (i:=3) (y:={ y with i:=wrap64 (y.i+(nn:Int)) }) (u:= .int .i64 (wrap64 (y.i+(nn:Int)))) jM (by rw[hy];rfl);have hW:=hw.dot (ix:=ix) (y:={ y with i:=wrap64 (y.i+(nn:Int)) }) (by obtain⟨⟨h1,h2⟩,h3,h4⟩:=hw.dx y oY;exact⟨⟨by simp only;omega,by simp only;omega⟩,by simp only;omega,by simp only;omega⟩);have hg:=a0g W2 da (ix*4+3) (.int .i64 (wrap64 (y.i+(nn:Int))));have cI:PO w B2 (B2+1+1) B5 (n+1) (W2.setCell ⟨da,ix*4+3,none⟩ (.int .i64 (wrap64 (y.i+(nn:Int))))):=⟨⟨_,_,_,_,_,_,_,_,_,hX,hW⟩,sM.setCell (p:=⟨da,ix*4+3,none⟩) Bg _,pP.keep hg kd jM⟩;obtain⟨m,hm⟩:=zE D.length;rw[hm]at hp aO b0 dZ;obtain⟨jS,th,jG⟩:=zI (show ix<m by omega);clear same hX hW hg oY hy dz hm dZ cY;go_upto_region 13 with fail;first|with_reducible refine a0h 19 zM zM ?_|with_reducible refine a0i 19 zM zM ?_
     simp only[zT];repeat(first|go_big_quiet_step (fail)|quiet_step (fail))
     refine wpQuiet_nil ?_;intro _ bh;obtain⟨p,bh⟩:=bh;subst bh;exact yds
   |3,_ =>
    as_aux_lemma =>
     by_cases dz:K=[]
     ·exact ycz
     have dZ:0<K.length:=List.length_pos_iff.2 dz;obtain⟨ix,hp,aO⟩:=b8f k dZ;obtain⟨c0,z0⟩:=a7p (E:=keE) b4r cY.k oM aO (i:=2) jM;obtain⟨y,hy⟩:=zE (K[ix]);have oY:y∈K:=by rw[<-hy];exact List.getElem_mem aO
     rw[hy]at c0;replace c0:W2.cell? ⟨ka,ix*3+2,none⟩=some (.string y.c):=c0;replace z0:W2.frozen? ⟨ka,ix*3+2,none⟩=false:=z0;have U8:=hw.kc y oY;have O5:¬9223372036854775807<y.c.size+1:=oM;have hX:=cY.setK aO (i:=2) (y:={ y with c:=y.c++⟨#[97]⟩ }) (u:= .string (y.c++⟨#[97]⟩)) jM (by rw[hy];rfl);have hW:=hw.key (ix:=ix) (y:={ y with c:=y.c++⟨#[97]⟩ }) (by simp only[ByteArray.size_append];have:(ByteArray.mk #[97]).size=1:=rfl;omega);have hg:=a0g W2 ka (ix*3+2) (.string (y.c++⟨#[97]⟩));have cI:PO w B2 (B2+1+1) B5 (n+1) (W2.setCell ⟨ka,ix*3+2,none⟩ (.string (y.c++⟨#[97]⟩))):=⟨⟨_,_,_,_,_,_,_,_,_,hX,hW⟩,sM.setCell (p:=⟨ka,ix*3+2,none⟩) nc _,pP.keep hg kk jM⟩;obtain⟨m,hm⟩:=zE K.length;rw[hm]at hp aO b1 dZ;obtain⟨jS,th,jG⟩:=zI (show ix<m by omega);clear same hX hW hg oY hy dz hm dZ cY;go_upto_region 16 with fail;refine zR9 λp=> ?_
     exact yds
   |4,_ =>
    as_aux_lemma =>
     by_cases dz:K=[]
     ·exact ycz
     have dZ:0<K.length:=List.length_pos_iff.2 dz;obtain⟨ix,hp,aO⟩:=b8f k dZ;have aR:(K.take ix).length=ix:=by rw[List.length_take];omega
     have bY:K.length<=kc:=(a0d b4r cY.k oM).form_cap;have hW:=hw.keys (K':=K.take ix) (λd hd=>List.mem_of_mem_take hd) (by rw[aR];omega);have aU:=b4i b4r cY.k (k:=ix) oM;obtain⟨k9,hQ⟩:=cY.keys (K':=K.take ix) (g':=ka) (c':=kc) (b6h W2 _) (by have h:=aU;rw[aR]at h ⊢;exact h);have y9:=k9.cell 1;have z9:=k9.frozen 1;have cI:=PO.mk' (b6h W2 (some ka)) kk jM nc bF sM pP aZ mO hQ hW;rw[aR]at cI;obtain⟨m,hm⟩:=zE K.length;rw[hm]at hp b1 bY aO;obtain⟨jS,th,jG⟩:=zI (show ix<m by omega);have D8:(ix:Int)<=(kc:Int):=oM;clear same dz dZ hm hQ k9 aU cY aR hW y9;go_upto_region 19 with fail;refine zR7 λp=> ?_
     exact yds
   |5,_ =>
    as_aux_lemma =>
     by_cases dz:L=[]
     ·exact ycz
     have dZ:0<L.length:=List.length_pos_iff.2 dz;obtain⟨ix,hp,aO⟩:=b8f k dZ;have aR:(L.take ix).length=ix:=by rw[List.length_take];omega
     have bY:L.length<=lc:=(a0d a9w cY.l oM).form_cap;have fF:(L.take ix).length+(L.drop (ix+1)).length<=100000:=by rw[List.length_take,List.length_drop];omega
     have zb:ix+1<=L.length:=aO;have hW:=hw.lefts (L':=L.take ix++L.drop (ix+1)) (λd hd=> .inl (d2g hd)) (Nat.le_succ_of_le (d2h L ix));obtain⟨m,hm⟩:=zE L.length;rw[hm]at hp b2 bY zb;obtain⟨jS,th,jG⟩:=zI (show ix<m by omega);have gC:IntKind.i64.wrap ((ix:Int)+1)=(ix:Int)+1:=a0j oM oM;have ot:(ix:Int)+1<=(m:Int):=oM;have Ao:((ix:Int)+1).toNat=ix+1:=oM;have D8:(ix:Int)<=(lc:Int):=oM;replace hm:=Lib.hid hm;clear same dz dZ;go_upto_region 22 with fail;refine zR8 λp=> ?_
     have eR:=cY.up (Go.below_growBy W2 p);have hL:=a0d a9w eR.l oM;have hF:=a7l eR.l;have hT:=a9o (k:=ix+1) hL hF (by have:=hm.out;omega);rw[hm.out]at hT;have e1:Option.map (λx=>Addr.add x ((ix+1)*lfE.s)) (some (⟨la,0,none⟩:Addr))=some ⟨la,(ix+1)*lfE.s,none⟩:=by simp[Addr.add]
     rw[e1]at hT;refine El.joinO (n0:=(W2.growBy p).heap.size) a9w d7z qM _ _ qM B2 qM (L.take ix) (b4i a9w eR.l (by have:=hm.out;omega)) ⟨_,_,by rw[aR]⟩ (L.drop (ix+1)) qM ?hx ?hf fF eR.z ?_
     case hx=>exact yjs
     case hf=>exact yjt
     rintro v9 w9 aU bD⟨g9,c9,rfl⟩ -;obtain⟨l2,du⟩:=zE (L.take ix++L.drop (ix+1));rw[du]at aU hW;simp only[du];obtain⟨k9,hQ⟩:=eR.left bD aU;have y9:=k9.cell 2;have z9:=k9.frozen 2;have cI:=PO.mk' bD ((kl).below (Go.below_growBy W2 p) (kl).lt) jM pg eR.z (sM.trans ((Go.below_growBy W2 p).mono bF)) (pP.below (Go.below_growBy W2 p) pP.lt) aZ mO hQ hW;exact yjd
   |6,_ =>
    as_aux_lemma =>
     by_cases dz:L=[]
     ·exact ycz
     have dZ:0<L.length:=List.length_pos_iff.2 dz;obtain⟨ix,hp,aO⟩:=b8f k dZ;obtain⟨c0,z0⟩:=a7p (E:=lfE) a9w cY.l oM aO (i:=2) jM;obtain⟨y,hy⟩:=zE (L[ix]);have oY:y∈L:=by rw[<-hy];exact List.getElem_mem aO
     rw[hy]at c0;replace c0:W2.cell? ⟨la,ix*3+2,none⟩=some (.int .i64 y.i):=c0;replace z0:W2.frozen? ⟨la,ix*3+2,none⟩=false:=z0;have hX:=cY.setL aO (i:=2) (y:={ y with i:=wrap64 (wrap64 (y.i+(nn:Int))-2) }) (u:= .int .i64 (wrap64 (wrap64 (y.i+(nn:Int))-2))) jM (by rw[hy];rfl);have hW:=hw.leftS (ix:=ix) (y:={ y with i:=wrap64 (wrap64 (y.i+(nn:Int))-2) }) (a1c _);have hg:=a0g W2 la (ix*3+2) (.int .i64 (wrap64 (wrap64 (y.i+(nn:Int))-2)));have cI:PO w B2 (B2+1+1) B5 (n+1) (W2.setCell ⟨la,ix*3+2,none⟩ (.int .i64 (wrap64 (wrap64 (y.i+(nn:Int))-2)))):=⟨⟨_,_,_,_,_,_,_,_,_,hX,hW⟩,sM.setCell (p:=⟨la,ix*3+2,none⟩) pg _,pP.keep hg kl jM⟩;obtain⟨m,hm⟩:=zE L.length;rw[hm]at hp aO b2 dZ;obtain⟨jS,th,jG⟩:=zI (show ix<m by omega);clear same hX hW hg oY hy dz hm dZ cY;go_upto_region 25 with fail;refine zR5 λp=> ?_
     exact yds
   |7,_ =>
    as_aux_lemma =>
     by_cases dz:L=[]
     ·exact ycz
     have dZ:0<L.length:=List.length_pos_iff.2 dz;obtain⟨ix,hp,aO⟩:=b8f k dZ;obtain⟨c0,z0⟩:=a7p (E:=lfE) a9w cY.l oM aO (i:=1) jM;obtain⟨y,hy⟩:=zE (L[ix]);have oY:y∈L:=by rw[<-hy];exact List.getElem_mem aO
     rw[hy]at c0;replace c0:W2.cell? ⟨la,ix*3+1,none⟩=some (.int .i64 y.k):=c0;replace z0:W2.frozen? ⟨la,ix*3+1,none⟩=false:=z0;have hX:=cY.setL aO (i:=1) (y:={ y with k:=(nn:Int) }) (u:= .int .i64 (nn:Int)) jM (by rw[hy];rfl);have hW:=hw.leftS (ix:=ix) (y:={ y with k:=(nn:Int) }) (hw.lf y oY);have hg:=a0g W2 la (ix*3+1) (.int .i64 (nn:Int));have cI:PO w B2 (B2+1+1) B5 (n+1) (W2.setCell ⟨la,ix*3+1,none⟩ (.int .i64 (nn:Int))):=⟨⟨_,_,_,_,_,_,_,_,_,hX,hW⟩,sM.setCell (p:=⟨la,ix*3+1,none⟩) pg _,pP.keep hg kl jM⟩;obtain⟨m,hm⟩:=zE L.length;rw[hm]at hp aO b2 dZ;obtain⟨jS,th,jG⟩:=zI (show ix<m by omega);clear same hX hW hg oY hy dz hm dZ cY;go_upto_region 28 with fail;refine zR7 λp=> ?_
     exact yds
   |8,_ =>
    as_aux_lemma =>
     obtain⟨ix,hp,aO⟩:=b8f k (m:=8) jM;have jS:(k:Int) % 8=(ix:Int):=by rw[<-hp,Int.tmod_eq_emod_of_nonneg oM];rfl
     have U9:(ix:Int)<8:=oM;have Va:IntKind.i64.wrap (60+(ix:Int))=60+(ix:Int):=a0j oM oM;have hW:=hw.lefts (L':=L++[⟨60+(ix:Int),0,0⟩]) (λd hd=>by
      rcases List.mem_append.1 hd with h|h
      ·exact .inl h
      ·rw[List.mem_singleton]at h
       subst h;exact .inr ⟨by simp only;omega,by simp only;omega⟩) vM
     clear same;go_upto_region 30 with fail;go_wp2_with (first
      |(at_builtin;refine El.pushO a9w d7z qM _ _ qM qM cY.l ⟨60+(ix:Int),0,0⟩ qM rfl cY.z oM ?_;intro v9 w9 aU oJ bD br
        obtain⟨l2,du⟩:=zE (L++[⟨60+(ix:Int),0,0⟩]);have EB:0<l2.length:=by rw[<-du];simp
        rw[du]at aU hW;obtain⟨g9,c9,rfl⟩:=c6f aU EB;obtain⟨k9,hQ⟩:=cY.left bD aU;have y9:=k9.cell 2;have z9:=k9.frozen 2;have cI:=PO.mk' bD kl jM pg bF sM pP aZ mO hQ hW;clear cY aU bD hQ k9 du EB oJ br))
     go_meet;exact cI
   |n+9,h=>omega
  case rest =>
   obtain⟨⟨ga,gk,gl,c0,c1,c2,D',K',L',hR,Ga⟩,bU,eC⟩:=hcut;have b0:wc.cell? ⟨B5,0,none⟩=some (.slice (some ⟨ga,0,none⟩) D'.length c0):=hR.b.cell 0;have b1:wc.cell? ⟨B5,1,none⟩=some (.slice (some ⟨gk,0,none⟩) K'.length c1):=hR.b.cell 1;have b2:wc.cell? ⟨B5,2,none⟩=some (.slice (some ⟨gl,0,none⟩) L'.length c2):=hR.b.cell 2;have y0:wc.cell? ⟨B2+1+1,0,none⟩=some (.slice none 0 0):=eC.cell 0;have y1:wc.cell? ⟨B2+1+1,1,none⟩=some (.slice none 0 0):=eC.cell 1;have y2:wc.cell? ⟨B2+1+1,2,none⟩=some (.slice none 0 0):=eC.cell 2;have z0:=eC.frozen 0;have z1:=eC.frozen 1;have z2:=eC.frozen 2;have kZ:=((eC.set 0 (.slice (some ⟨ga,0,none⟩) D'.length c0)).set 1 (.slice (some ⟨gk,0,none⟩) K'.length c1)).set 2 (.slice (some ⟨gl,0,none⟩) L'.length c2);have aV:B2<=B2+1+1:=oM;have Sa:=((bU.setCell (p:=⟨B2+1+1,0,none⟩) aV (.slice (some ⟨ga,0,none⟩) D'.length c0)).setCell (p:=⟨B2+1+1,1,none⟩) aV (.slice (some ⟨gk,0,none⟩) K'.length c1)).setCell (p:=⟨B2+1+1,2,none⟩) aV (.slice (some ⟨gl,0,none⟩) L'.length c2);simp only[List.setIfInBounds_toArray,List.set_cons_zero,List.set_cons_succ]at kZ;have fR:=hR.out (a:= .slice (some ⟨ga,0,none⟩) D'.length c0) (b:= .slice (some ⟨gk,0,none⟩) K'.length c1) (d:= .slice (some ⟨gl,0,none⟩) L'.length c2) eC (Nat.le_trans Ga.dl jM) (Nat.le_trans Ga.kl jM) (Nat.le_trans Ga.ll oM);clear hR cY hw;go_wp2_with fail;exact bodyPost_ret (results_cell_row qM _ _ (B2+1+1) 45 _ (0,0) _ qM kZ underlying45 qM zM) rfl ⟨_,_,rfl,fR,Ga,aG▸Sa⟩
end
end Go.Proofs.YtfocdbjceedagaaGreatDoor
