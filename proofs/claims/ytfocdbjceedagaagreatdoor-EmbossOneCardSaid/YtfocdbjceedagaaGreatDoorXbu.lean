/-
  Parts.
-/
import Derived.Test.YtfocdbjceedagaaGreatDoorXbt
set_option linter.unusedVariables false
set_option linter.unusedSimpArgs false
set_option maxHeartbeats 8000000
set_option maxRecDepth 100000
namespace Go.Proofs.YtfocdbjceedagaaGreatDoor
open Tryz
section
open Go Go.RowKit Go.Shelf Go.Lib
attribute [local go_sem] Oper.semAt_some
attribute [local go_sem ↓] Go.wp_at_zero Go.wp_at_succ
structure PlW (n:Nat)(pl:Pn):Prop where
 dx:∀d∈pl.dots,(-(1000+10*(n:Int))≤d.x∧d.x≤1000+10*(n:Int)) ∧ -(1000+10*(n:Int))≤d.y∧d.y≤1000+10*(n:Int)
 dl:pl.dots.length≤10000
 kc:∀k∈pl.keys,k.c.size≤100000+n
 kl:pl.keys.length≤1000
 lf:∀x∈pl.left,a0k x.i
 ll:pl.left.length≤500+n
theorem PlW.sm {n:Nat}{pl:Pn}(h:PlW n pl)(hn:n≤100):∀d∈pl.dots,Sm d:=fun d hd=>by
 obtain⟨⟨h1,h2⟩,h3,h4⟩:=h.dx d hd;exact⟨by omega,by omega,by omega,by omega⟩
theorem PlW.mono {n m:Nat}{pl:Pn}(h:PlW n pl)(hn:n≤m):PlW m pl :=
 ⟨fun d hd=>by obtain⟨⟨h1,h2⟩,h3,h4⟩:=h.dx d hd;exact⟨⟨by omega,by omega⟩,by omega,by omega⟩,h.dl,fun k hk=>by have:=h.kc k hk;omega,h.kl,h.lf,by have:=h.ll;omega⟩
section
variable {n0:Nat}{W W':World}{t tg:TypeId}{s g n:Nat}{v:Value}{xs:List Value}{cur c:Array Value}{B:Nat}
theorem a2c {k:Nat}(h:W.ownsRow n0 t s v n xs)(e:v.ownBlock=some k):∃c,Blk W k c t:=by
 rcases h.2 with ⟨rfl,-⟩|⟨g,cap,cur,rfl,h1,h2,-⟩
 ·cases e
 ·cases e
  exact⟨cur,h2⟩
theorem a1f (h:W.ownsRow n0 t s v n xs)(hg:W.grownBy W' (some g))(k:Blk W g cur tg)(ht:t≠tg):W'.ownsRow n0 t s v n xs:=h.kept hg (.inr (a0s h k (Ne.symm ht)))
theorem Blk.keep (h:Blk W B c t)(hg:W.grownBy W' (some g))(k:Blk W g cur tg)(ht:t≠tg):Blk W' B c t:=by
 refine (hg.block B h.lt fun e=> ?_).trans h
 cases e;have:=h.symm.trans k;simp at this;exact ht this.2
end
structure PR3 (n0:Nat)(W:World)(B:Nat)(da ka la:Nat)(dc kc lc:Nat)(D:List Dt)(K:List Ke)(L:List Lf):Prop where
 d:W.ownsRow n0 54 4 (.slice (some ⟨da,0,none⟩) D.length dc) D.length (D.flatMap dtE.enc)
 k:W.ownsRow n0 82 3 (.slice (some ⟨ka,0,none⟩) K.length kc) K.length (K.flatMap keE.enc)
 l:W.ownsRow n0 68 3 (.slice (some ⟨la,0,none⟩) L.length lc) L.length (L.flatMap lfE.enc)
 b:Blk W B #[.slice (some ⟨da,0,none⟩) D.length dc,.slice (some ⟨ka,0,none⟩) K.length kc,.slice (some ⟨la,0,none⟩) L.length lc] 45
 n:n0≤B
 z:n0≤W.heap.size
section
variable {n0:Nat}{W W':World}{B da ka la dc kc lc:Nat}{D:List Dt}{K:List Ke}{L:List Lf}
theorem PR3.init {base:Nat}(h1:W.ownsRow base 54 4 (.slice (some ⟨da,0,none⟩) D.length dc) D.length (D.flatMap dtE.enc))(h2:W.ownsRow base 82 3 (.slice (some ⟨ka,0,none⟩) K.length kc) K.length (K.flatMap keE.enc))(h3:W.ownsRow base 68 3 (.slice (some ⟨la,0,none⟩) L.length lc) L.length (L.flatMap lfE.enc))
 (h5:Blk W B #[.slice none 0 0,.slice none 0 0,.slice none 0 0] 45) (hb:n0≤base) (hB:n0≤B) (hz:n0≤W.heap.size) :
 PR3 n0 (((W.setCell ⟨B,0,none⟩ (.slice (some ⟨da,0,none⟩) D.length dc)).setCell ⟨B,1,none⟩ (.slice (some ⟨ka,0,none⟩) K.length kc)).setCell ⟨B,2,none⟩ (.slice (some ⟨la,0,none⟩) L.length lc)) B da ka la dc kc lc D K L:=by
 have g1:=a0h W B 0 (.slice (some ⟨da,0,none⟩) D.length dc);have k1:=h5.set 0 (.slice (some ⟨da,0,none⟩) D.length dc);have g2:=a0h (W.setCell ⟨B,0,none⟩ (.slice (some ⟨da,0,none⟩) D.length dc)) B 1 (.slice (some ⟨ka,0,none⟩) K.length kc);have k2:=k1.set 1 (.slice (some ⟨ka,0,none⟩) K.length kc);have g3:=a0h ((W.setCell ⟨B,0,none⟩ (.slice (some ⟨da,0,none⟩) D.length dc)).setCell ⟨B,1,none⟩ (.slice (some ⟨ka,0,none⟩) K.length kc)) B 2 (.slice (some ⟨la,0,none⟩) L.length lc);have k3:=k2.set 2 (.slice (some ⟨la,0,none⟩) L.length lc);have r:∀ {t:TypeId} {s n:Nat} {v:Value} {xs:List Value},W.ownsRow base t s v n xs→t≠45→World.ownsRow _ n0 t s v n xs:=fun h ht=>a8h (a1f (a1f (a1f h g1 h5 ht) g2 k1 ht) g3 k2 ht) hb
 exact⟨r h1 (by decide),r h2 (by decide),r h3 (by decide),by simpa using k3,hB,by simpa using hz⟩
theorem PR3.up (h:PR3 n0 W B da ka la dc kc lc D K L)(hb:Below W.heap.size W W'):PR3 n0 W' B da ka la dc kc lc D K L :=
 ⟨a1l h.d hb,a1l h.k hb,a1l h.l hb,h.b.below hb h.b.lt,h.n,Nat.le_trans h.z hb.size⟩
theorem PR3.dots (h:PR3 n0 W B da ka la dc kc lc D K L){D':List Dt}{g' c':Nat}(hg:W.grownBy W' (some da))(hr:W'.ownsRow n0 54 4 (.slice (some ⟨g',0,none⟩) D'.length c') D'.length (D'.flatMap dtE.enc)) :
 Blk W' B #[.slice (some ⟨da,0,none⟩) D.length dc,.slice (some ⟨ka,0,none⟩) K.length kc,.slice (some ⟨la,0,none⟩) L.length lc] 45∧PR3 n0 (W'.setCell ⟨B,0,none⟩ (.slice (some ⟨g',0,none⟩) D'.length c')) B g' ka la c' kc lc D' K L:=by
 obtain⟨cd,kd⟩:=a2c h.d rfl;have k1:=h.b.keep hg kd (by decide);have g2:=a0h W' B 0 (.slice (some ⟨g',0,none⟩) D'.length c');exact⟨k1,a1f hr g2 k1 (by decide),a1f (a1f h.k hg kd (by decide)) g2 k1 (by decide),a1f (a1f h.l hg kd (by decide)) g2 k1 (by decide),by simpa using k1.set 0 (.slice (some ⟨g',0,none⟩) D'.length c'),h.n,by simpa using Nat.le_trans h.z hg.size⟩
theorem PR3.keys (h:PR3 n0 W B da ka la dc kc lc D K L){K':List Ke}{g' c':Nat}(hg:W.grownBy W' (some ka))(hr:W'.ownsRow n0 82 3 (.slice (some ⟨g',0,none⟩) K'.length c') K'.length (K'.flatMap keE.enc)) :
 Blk W' B #[.slice (some ⟨da,0,none⟩) D.length dc,.slice (some ⟨ka,0,none⟩) K.length kc,.slice (some ⟨la,0,none⟩) L.length lc] 45∧PR3 n0 (W'.setCell ⟨B,1,none⟩ (.slice (some ⟨g',0,none⟩) K'.length c')) B da g' la dc c' lc D K' L:=by
 obtain⟨cd,kd⟩:=a2c h.k rfl;have k1:=h.b.keep hg kd (by decide);have g2:=a0h W' B 1 (.slice (some ⟨g',0,none⟩) K'.length c');exact⟨k1,a1f (a1f h.d hg kd (by decide)) g2 k1 (by decide),a1f hr g2 k1 (by decide),a1f (a1f h.l hg kd (by decide)) g2 k1 (by decide),by simpa using k1.set 1 (.slice (some ⟨g',0,none⟩) K'.length c'),h.n,by simpa using Nat.le_trans h.z hg.size⟩
theorem PR3.left (h:PR3 n0 W B da ka la dc kc lc D K L){L':List Lf}{g' c':Nat}(hg:W.grownBy W' (some la))(hr:W'.ownsRow n0 68 3 (.slice (some ⟨g',0,none⟩) L'.length c') L'.length (L'.flatMap lfE.enc)) :
 Blk W' B #[.slice (some ⟨da,0,none⟩) D.length dc,.slice (some ⟨ka,0,none⟩) K.length kc,.slice (some ⟨la,0,none⟩) L.length lc] 45∧PR3 n0 (W'.setCell ⟨B,2,none⟩ (.slice (some ⟨g',0,none⟩) L'.length c')) B da ka g' dc kc c' D K L':=by
 obtain⟨cd,kd⟩:=a2c h.l rfl;have k1:=h.b.keep hg kd (by decide);have g2:=a0h W' B 2 (.slice (some ⟨g',0,none⟩) L'.length c');exact⟨k1,a1f (a1f h.d hg kd (by decide)) g2 k1 (by decide),a1f (a1f h.k hg kd (by decide)) g2 k1 (by decide),a1f hr g2 k1 (by decide),by simpa using k1.set 2 (.slice (some ⟨g',0,none⟩) L'.length c'),h.n,by simpa using Nat.le_trans h.z hg.size⟩
theorem PR3.setD (h:PR3 n0 W B da ka la dc kc lc D K L){p i:Nat}(hp:p<D.length)(hi:i<4){y:Dt}{u:Value}(he:dtE.enc y=(dtE.enc D[p]).set i u):PR3 n0 (W.setCell ⟨da,p*4+i,none⟩ u) B da ka la dc kc lc (D.set p y) K L:=by
 obtain⟨cd,kd⟩:=a2c h.d rfl;have hg:=a0h W da (p*4+i) u;have:=El.setRow a6m h.d hp hi he;have hb:=h.b.keep hg kd (by decide);rw[show D.length=(D.set p y).length by simp] at hb;exact⟨by rw[List.length_set] at this ⊢;exact this,a1f h.k hg kd (by decide),a1f h.l hg kd (by decide),hb,h.n,by simpa using h.z⟩
theorem PR3.setK (h:PR3 n0 W B da ka la dc kc lc D K L){p i:Nat}(hp:p<K.length)(hi:i<3){y:Ke}{u:Value}(he:keE.enc y=(keE.enc K[p]).set i u):PR3 n0 (W.setCell ⟨ka,p*3+i,none⟩ u) B da ka la dc kc lc D (K.set p y) L:=by
 obtain⟨cd,kd⟩:=a2c h.k rfl;have hg:=a0h W ka (p*3+i) u;have:=El.setRow b7x h.k hp hi he;have hb:=h.b.keep hg kd (by decide);rw[show K.length=(K.set p y).length by simp] at hb;exact⟨a1f h.d hg kd (by decide),by rw[List.length_set] at this ⊢;exact this,a1f h.l hg kd (by decide),hb,h.n,by simpa using h.z⟩
theorem PR3.setL (h:PR3 n0 W B da ka la dc kc lc D K L){p i:Nat}(hp:p<L.length)(hi:i<3){y:Lf}{u:Value}(he:lfE.enc y=(lfE.enc L[p]).set i u):PR3 n0 (W.setCell ⟨la,p*3+i,none⟩ u) B da ka la dc kc lc D K (L.set p y):=by
 obtain⟨cd,kd⟩:=a2c h.l rfl;have hg:=a0h W la (p*3+i) u;have:=El.setRow a7r h.l hp hi he;have hb:=h.b.keep hg kd (by decide);rw[show L.length=(L.set p y).length by simp] at hb;exact⟨a1f h.d hg kd (by decide),a1f h.k hg kd (by decide),by rw[List.length_set] at this ⊢;exact this,hb,h.n,by simpa using h.z⟩
end
section
variable {n0:Nat}{W W':World}{B da ka la dc kc lc:Nat}{D:List Dt}{K:List Ke}{L:List Lf}
theorem a4j {α:Type}{E:El α}(hE:E.Ok){base g cap:Nat}{l:List α}(h:W.ownsRow base E.t E.s (.slice (some ⟨g,0,none⟩) l.length cap) l.length (l.flatMap E.enc))(hl:l.length≤100000){p i:Nat}(hp:p<l.length)(hi:i<E.s):W.cell? ⟨g,p*E.s+i,none⟩=(E.enc l[p])[i]?∧W.frozen? ⟨g,p*E.s+i,none⟩=false:=by
 obtain⟨b',off',cap',e,-,-,hc⟩:=(a0b hE h (by omega)).some_ (by omega);simp only[Value.slice.injEq,Option.some.injEq,Addr.mk.injEq] at e;obtain⟨⟨rfl,rfl,-⟩,-,-⟩:=e;have h1:=hc p hp i hi;rw[Nat.zero_add] at h1;exact⟨h1,h.frozenAt _⟩
theorem c9t {t:TypeId}{s n:Nat}{v:Value}{xs:List Value}(h:W.ownsRow n0 t s v n xs)(hn:0<n):∃g c,v= .slice (some ⟨g,0,none⟩) n c:=by
 rcases h.2 with ⟨-,h2⟩|⟨g,cap,cur,h1,-⟩
 ·omega
 ·exact⟨g,cap,h1⟩
theorem Lst.form_cap {α:Type}{E:El α}{n0:Nat}{W:World}{a:Option Addr}{len cap:Nat}{l:List α}(h:Lst E n0 W (.slice a len cap) l):l.length≤cap:=by
 obtain⟨a',c',e,h1⟩:=h.form;simp only[Value.slice.injEq] at e;omega
theorem b1x {α:Type}{E:El α}(hE:E.Ok){base g pc:Nat}{l:List α}(h:W.ownsRow base E.t E.s (.slice (some ⟨g,0,none⟩) l.length pc) l.length (l.flatMap E.enc)){k:Nat}(hk:k≤l.length):W.ownsRow base E.t E.s (.slice (some ⟨g,0,none⟩) k pc) (l.take k).length ((l.take k).flatMap E.enc):=by
 have hkl:(l.take k).length=k:=by rw[List.length_take];omega
 have hf:(l.take k).flatMap E.enc=(l.flatMap E.enc).take (k*E.s):=by
  have e:(l.take k).flatMap E.enc++(l.drop k).flatMap E.enc=l.flatMap E.enc:=by rw[←List.flatMap_append,List.take_append_drop]
  rw[←e,List.take_left' (by rw[a1c hE,hkl])]
 rw[hkl,hf];have hm:k*E.s≤l.length*E.s:=Nat.mul_le_mul_right _ hk;obtain⟨h1,⟨h2,-⟩|⟨g',cap',cur,h2,h3,h4,h5,h6,h7,h8⟩⟩:=h
 ·cases h2
 ·cases h2
  refine⟨by rw[List.length_take,h1];omega,.inr ⟨g,pc,cur,rfl,h3,h4,by omega,h6,h7,?_⟩⟩;rw[←h8,List.take_take,Nat.min_eq_left hm]
structure PO (w:World)(B2 B4 B5 n:Nat)(W:World):Prop where
 ex:∃da ka la dc kc lc D K L,PR3 B2 W B5 da ka la dc kc lc D K L∧PlW n ⟨D,K,L⟩
 bel:Below B2 w W
 b4:Blk W B4 #[.slice none 0 0,.slice none 0 0,.slice none 0 0] 45
theorem PO.up {w W W':World}{B2 B4 B5 n:Nat}(h:PO w B2 B4 B5 n W)(hb:Below W.heap.size W W'):PO w B2 B4 B5 n W':=by
 obtain⟨⟨da,ka,la,dc,kc,lc,D,K,L,h1,h2⟩,h3,h4⟩:=h;exact⟨⟨_,_,_,_,_,_,_,_,_,h1.up hb,h2⟩,h3.trans (hb.mono (Nat.le_trans h1.z (yR _))),h4.below hb h4.lt⟩
theorem PO.mk' {w W W':World}{B2 B4 B5 n g i:Nat}{da ka la dc kc lc:Nat}{D:List Dt}{K:List Ke}{L:List Lf}{u:Value}{cur:Array Value}{tg:TypeId}(hg:W.grownBy W' (some g))(k:Blk W g cur tg)(ht:45≠tg)(hgl:B2≤g)(hz:B2≤W.heap.size)(h3:Below B2 w W)(h4:Blk W B4 #[.slice none 0 0,.slice none 0 0,.slice none 0 0] 45)(hb5:B2≤B5)(hne:B4≠B5)
 (h1:PR3 B2 (W'.setCell ⟨B5,i,none⟩ u) B5 da ka la dc kc lc D K L) (h2:PlW n ⟨D,K,L⟩):PO w B2 B4 B5 n (W'.setCell ⟨B5,i,none⟩ u):=by
 have h4':=h4.keep hg k ht;exact⟨⟨_,_,_,_,_,_,_,_,_,h1,h2⟩,(h3.trans (a1i hg hz (fun j e=>by cases e;exact hgl))).setCell hb5 _,((a0h W' B5 i u).block B4 h4'.lt (by simpa using hne)).trans h4'⟩
theorem b3m (W:World)(o:Option Nat):W.grownBy W o:=⟨rfl,rfl,rfl,yR _,fun _ _ _=>rfl⟩
theorem PR3.out {a b d:Value}{B4:Nat}{c:Array Value}(h:PR3 n0 W B da ka la dc kc lc D K L)(k4:Blk W B4 c 45)(hD:D.length≤100000)(hK:K.length≤100000)(hL:L.length≤100000) :
 PlanIn (((W.setCell ⟨B4,0,none⟩ a).setCell ⟨B4,1,none⟩ b).setCell ⟨B4,2,none⟩ d) (a2f (.slice (some ⟨da,0,none⟩) D.length dc) (.slice (some ⟨ka,0,none⟩) K.length kc) (.slice (some ⟨la,0,none⟩) L.length lc)) ⟨D,K,L⟩:=by
 have g1:=a0h W B4 0 a;have k1:=k4.set 0 a;have g2:=a0h (W.setCell ⟨B4,0,none⟩ a) B4 1 b;have k2:=k1.set 1 b;have g3:=a0h ((W.setCell ⟨B4,0,none⟩ a).setCell ⟨B4,1,none⟩ b) B4 2 d;have r:∀ {t:TypeId} {s n:Nat} {v:Value} {xs:List Value},W.ownsRow n0 t s v n xs→t≠45→World.ownsRow _ n0 t s v n xs:=fun h ht=>a1f (a1f (a1f h g1 k4 ht) g2 k1 ht) g3 k2 ht
 have h1:=r h.d (by decide);have h2:=r h.k (by decide);have h3:=r h.l (by decide);exact⟨_,_,_,rfl,⟨a0b a6m h1 (Nat.le_trans hD (by decide)),a6j h1⟩,⟨a0b b7x h2 (Nat.le_trans hK (by decide)),a6j h2⟩,a0b a7r h3 (Nat.le_trans hL (by decide)),a6j h3⟩
theorem c0z {t:TypeId}{s n:Nat}{v:Value}{xs:List Value}{g:Nat}(h:W.ownsRow n0 t s v n xs)(e:v.ownBlock=some g):n0≤g:=(h.lt g e).1
theorem PlW.dot {n:Nat}(h:PlW n ⟨D,K,L⟩){ix:Nat}{y:Dt}(hy:(-(1000+10*((n+1:Nat):Int))≤y.x∧y.x≤1000+10*((n+1:Nat):Int)) ∧ -(1000+10*((n+1:Nat):Int))≤y.y∧y.y≤1000+10*((n+1:Nat):Int)):PlW (n+1) ⟨D.set ix y,K,L⟩:=by
 have h':=h.mono (Nat.le_succ n);refine⟨fun d hd=> ?_,by simpa using h.dl,h'.kc,h.kl,h.lf,h'.ll⟩;rcases List.mem_or_eq_of_mem_set hd with h1|rfl
 ·exact h'.dx d h1
 ·exact hy
theorem PlW.dots {n:Nat}(h:PlW n ⟨D,K,L⟩){D':List Dt}(hs:∀d∈D',d∈D)(hl:D'.length≤D.length):PlW (n+1) ⟨D',K,L⟩:=by
 have h':=h.mono (Nat.le_succ n);exact⟨fun d hd=>h'.dx d (hs d hd),Nat.le_trans hl h.dl,h'.kc,h.kl,h.lf,h'.ll⟩
theorem PlW.key {n:Nat}(h:PlW n ⟨D,K,L⟩){ix:Nat}{y:Ke}(hy:y.c.size≤100000+(n+1)):PlW (n+1) ⟨D,K.set ix y,L⟩:=by
 have h':=h.mono (Nat.le_succ n);refine⟨h'.dx,h.dl,fun d hd=> ?_,by simpa using h.kl,h.lf,h'.ll⟩;rcases List.mem_or_eq_of_mem_set hd with h1|rfl
 ·exact h'.kc d h1
 ·exact hy
theorem PlW.keys {n:Nat}(h:PlW n ⟨D,K,L⟩){K':List Ke}(hs:∀d∈K',d∈K)(hl:K'.length≤K.length):PlW (n+1) ⟨D,K',L⟩:=by
 have h':=h.mono (Nat.le_succ n);exact⟨h'.dx,h.dl,fun d hd=>h'.kc d (hs d hd),Nat.le_trans hl h.kl,h.lf,h'.ll⟩
theorem PlW.leftS {n:Nat}(h:PlW n ⟨D,K,L⟩){ix:Nat}{y:Lf}(hy:a0k y.i):PlW (n+1) ⟨D,K,L.set ix y⟩:=by
 have h':=h.mono (Nat.le_succ n);refine⟨h'.dx,h.dl,h'.kc,h.kl,fun d hd=> ?_,by simpa using h'.ll⟩;rcases List.mem_or_eq_of_mem_set hd with h1|rfl
 ·exact h.lf d h1
 ·exact hy
theorem PlW.lefts {n:Nat}(h:PlW n ⟨D,K,L⟩){L':List Lf}(hs:∀d∈L',d∈L∨a0k d.i)(hl:L'.length≤L.length+1):PlW (n+1) ⟨D,K,L'⟩:=by
 have h':=h.mono (Nat.le_succ n);exact⟨h'.dx,h.dl,h'.kc,h.kl,fun d hd=>(hs d hd).elim (h.lf d) id,by have:=h.ll;simp only at this ⊢;omega⟩
theorem c6j {α:Type}{l:List α}{k:Nat}{x:α}(h:x∈l.take k++l.drop (k+1)):x∈l:=(List.mem_append.1 h).elim List.mem_of_mem_take List.mem_of_mem_drop
theorem c6k {α:Type}(l:List α)(k:Nat):(l.take k++l.drop (k+1)).length≤l.length:=by rw[List.length_append,List.length_take,List.length_drop];omega
theorem c6l (q:Int):∃x:Int,(if (if q<wrap64 (-q) then wrap64 (-q) else q)<0 then 0 else if q<wrap64 (-q) then wrap64 (-q) else q)=x∧0≤x:=⟨_,rfl,by split <;> omega⟩
theorem c6m (x:Int)(h0:0≤x)(m:Nat)(hm:0<m):∃k:Nat,x % (m:Int)=(k:Int)∧k<m:=by
 have h1:=Int.emod_nonneg x (show (m:Int)≠0 by omega);have h2:=Int.emod_lt_of_pos x (show (0:Int)<(m:Int) by omega);exact⟨(x % (m:Int)).toNat,by omega,by omega⟩
theorem b5j (k:Nat){m:Nat}(hm:0<m):∃ix:Nat,Int.tmod (k:Int) (m:Int)=(ix:Int)∧ix<m:=⟨k % m,by rw[Int.tmod_eq_emod_of_nonneg (by omega)];omega,Nat.mod_lt _ hm⟩
end
structure CpR (wr:World)(B2:Nat)(dv kv lv:Value)(D:List Dt)(K:List Ke)(L:List Lf)(W:World):Prop where
 bel:Below wr.heap.size wr W
 c0:W.cell? ⟨B2,0,none⟩=some dv
 c1:W.cell? ⟨B2,1,none⟩=some kv
 c2:W.cell? ⟨B2,2,none⟩=some lv
 d:Lst dtE W.heap.size W dv D
 k:Lst keE W.heap.size W kv K
 l:Lst lfE W.heap.size W lv L
theorem CpR.up {wr W W':World}{B2:Nat}{dv kv lv:Value}{D:List Dt}{K:List Ke}{L:List Lf}(h:CpR wr B2 dv kv lv D K L W)(hb:Below W.heap.size W W'):CpR wr B2 dv kv lv D K L W' :=
 ⟨h.bel.trans (hb.mono h.bel.size),a2z hb h.c0,a2z hb h.c1,a2z hb h.c2,h.d.up hb,h.k.up hb,h.l.up hb⟩
def FCq (wr:World)(B2:Nat)(dv kv lv:Value)(D:List Dt)(K:List Ke)(L:List Lf)(i:Nat)(v:Value)(w:World):Prop :=
 match i with
 |0=>∃Z,v= .slice (some ⟨Z,0,none⟩) 0 0∧wr.heap.size≤Z∧Blk w Z #[] 54
 |1=>v= .pointer (some ⟨B2,0,none⟩)
 |2=>v=dv
 |3=>∃g c,v= .slice (some ⟨g,0,none⟩) D.length c∧w.ownsRow wr.heap.size 54 4 v D.length (D.flatMap dtE.enc)
 |4=>∃Z,v= .slice (some ⟨Z,0,none⟩) 0 0∧wr.heap.size≤Z∧Blk w Z #[] 82
 |5=>v= .pointer (some ⟨B2,1,none⟩)
 |6=>v=kv
 |7=>∃g c,v= .slice (some ⟨g,0,none⟩) K.length c∧w.ownsRow wr.heap.size 82 3 v K.length (K.flatMap keE.enc)
 |8=>∃Z,v= .slice (some ⟨Z,0,none⟩) 0 0∧wr.heap.size≤Z∧Blk w Z #[] 68
 |9=>v= .pointer (some ⟨B2,2,none⟩)
 |10=>v=lv
 |11=>∃g c,v= .slice (some ⟨g,0,none⟩) L.length c∧w.ownsRow wr.heap.size 68 3 v L.length (L.flatMap lfE.enc)
 |12=>∃ga ca gb cb gc cc,v= .agg #[.slice (some ⟨ga,0,none⟩) D.length ca,.slice (some ⟨gb,0,none⟩) K.length cb,.slice (some ⟨gc,0,none⟩) L.length cc]∧w.ownsRow wr.heap.size 54 4 (.slice (some ⟨ga,0,none⟩) D.length ca) D.length (D.flatMap dtE.enc)∧w.ownsRow wr.heap.size 82 3 (.slice (some ⟨gb,0,none⟩) K.length cb) K.length (K.flatMap keE.enc)∧w.ownsRow wr.heap.size 68 3 (.slice (some ⟨gc,0,none⟩) L.length cc) L.length (L.flatMap lfE.enc)
 |13=>∃Z,v= .pointer (some ⟨Z,0,none⟩)∧wr.heap.size≤Z∧Blk w Z #[.slice none 0 0,.slice none 0 0,.slice none 0 0] 45
 |_=>False
theorem FCq.kept {wr:World}{B2:Nat}{dv kv lv:Value}{D:List Dt}{K:List Ke}{L:List Lf}{i:Nat}{v:Value}{w w':World}(h:FCq wr B2 dv kv lv D K L i v w)(hg:Below w.heap.size w w'):FCq wr B2 dv kv lv D K L i v w':=by
 unfold FCq at *;split at h
 all_goals first|exact h|(obtain⟨Z,h1,h2,h3⟩:=h;exact⟨Z,h1,h2,h3.below hg h3.lt⟩)|(obtain⟨g,c,h1,h2⟩:=h;exact⟨g,c,h1,a1l h2 hg⟩)|(obtain⟨ga,ca,gb,cb,gc,cc,h1,h2,h3,h4⟩:=h;exact⟨ga,ca,gb,cb,gc,cc,h1,a1l h2 hg,a1l h3 hg,a1l h4 hg⟩)
theorem b5k (n:Nat)(hn:n≤5)(dv kv lv:Value)(q0 q1 q2:Int)(pl:Pn)(w:World)(hP:PlanIn w (a2f dv kv lv) pl)(hw:PlW n pl) :
 Calls prog 18 #[a2f dv kv lv,.agg #[.int .i64 q0,.int .i64 q1,.int .i64 q2]] w fun e w'=>∃v pl',e= .returned v∧PlanIn w' v pl'∧PlW (n+1) pl'∧Below w.heap.size w w':=by
 obtain⟨dv',kv',lv',e,⟨hd,hFd⟩,⟨hk,hFk⟩,hl,hFl⟩:=hP.ex
 cases e;obtain⟨D,K,L⟩:=pl;simp only at hd hk hl hFd hFk hFl;have hDl:D.length≤100000:=Nat.le_trans hw.dl (by decide);have hKl:K.length≤100000:=Nat.le_trans hw.kl (by decide);have hLl:L.length≤100000:=Nat.le_trans hw.ll (by omega);go_enter func18,ntmps18;go_upto_region 1 with fail;have k2:=((Blk.new w #[dv,kv,lv] 45).alloc (.cells #[.int .i64 q0,.int .i64 q1,.int .i64 q2] 23)).alloc (.cells #[.slice none 0 0,.slice none 0 0,.slice none 0 0] 45);have k3:=(Blk.new (w.alloc (.cells #[dv,kv,lv] 45)) #[.int .i64 q0,.int .i64 q1,.int .i64 q2] 23).alloc (.cells #[.slice none 0 0,.slice none 0 0,.slice none 0 0] 45);have k4:=Blk.new ((w.alloc (.cells #[dv,kv,lv] 45)).alloc (.cells #[.int .i64 q0,.int .i64 q1,.int .i64 q2] 23)) #[.slice none 0 0,.slice none 0 0,.slice none 0 0] 45;have hw1:Below w.heap.size w (((w.alloc (.cells #[dv,kv,lv] 45)).alloc (.cells #[.int .i64 q0,.int .i64 q1,.int .i64 q2] 23)).alloc (.cells #[.slice none 0 0,.slice none 0 0,.slice none 0 0] 45)):=(((zR _ _).alloc (yR _) _).alloc (by simp) _).alloc (by simp;omega) _;obtain⟨W1,hW1⟩:∃W,((w.alloc (.cells #[dv,kv,lv] 45)).alloc (.cells #[.int .i64 q0,.int .i64 q1,.int .i64 q2] 23)).alloc (.cells #[.slice none 0 0,.slice none 0 0,.slice none 0 0] 45)=W:=⟨_,rfl⟩;simp only[World.size_alloc] at k3 k4;obtain⟨B2,hB2⟩:∃b,w.heap.size=b:=⟨_,rfl⟩;rw[hW1] at k2 k3 k4 hw1 ⊢;rw[hB2] at k2 k3 k4 hw1 ⊢;have hB2l:w.heap.size≤B2:=by omega
 have hd1:=hd.up (hB2▸hw1);have hk1:=hk.up (hB2▸hw1);have hl1:=hl.up (hB2▸hw1);clear hW1 hd hk hl hP;have hz1:B2≤W1.heap.size:=by have:=k2.lt;omega
 have hk4l:=k4.lt;refine Go.wp_region_rel 14 (by kernel_rfl) (by kernel_rfl) (fun _ W=>CpR W1 B2 dv kv lv D K L W) (fun w w'=>Below w.heap.size w w') (FCq W1 B2 dv kv lv D K L) (fun _ _ _ _ h g=>h.kept g) ⟨(zR _ _).drew,k2.cell 0,k2.cell 1,k2.cell 2,hd1.up (zR _ _).drew,hk1.up (zR _ _).drew,hl1.up (zR _ _).drew⟩ ?step1 ?tail1
 case step1 =>
  clear k2 k3 k4 hw1 hd1 hk1 hl1 hw;intro i o hi ho c bb W hc hM hA hD K' hK;match i,hi,ho with
  |0,_,ho =>
   cases ho;go_simp;exact hK (.slice (some ⟨W.heap.size,0,none⟩) 0 0) _ ⟨_,rfl,hM.bel.size,Blk.new _ _ _⟩ ((zR _ _).alloc (yR _) _) (hM.up ((zR _ _).alloc (yR _) _))
  |1,_,ho =>
   cases ho;have f2:=a0a (v:= .pointer (some ⟨B2,0,none⟩)) (hA.at_ (k:=2) (by kernel_rfl));go_simp;exact hK (.pointer (some ⟨B2,0,none⟩)) W rfl (zR _ _) hM
  |2,_,ho =>
   cases ho;have f9:=a0a (v:= .pointer (some ⟨B2,0,none⟩)) (a0i hD 1 9 (by kernel_rfl) rfl rfl);have z0:W.cell? ⟨B2,0,none⟩=some (dv):=hM.c0;go_simp;exact hK (dv) W rfl (zR _ _) hM
  |3,_,ho =>
   cases ho;have f8:=a0i hD 0 8 (by kernel_rfl) rfl rfl;have f10:=a0a (v:=dv) (a0i hD 2 10 (by kernel_rfl) rfl rfl);obtain⟨Z,h1,h2,h3⟩:=f8;refine El.step_freshO a6m d3o _ _ (by rfl) _ Z h1 (a6b h3 h2) _ D (b3k f10) hM.d hFd hDl hM.bel.size ?_;rintro v9 w9 hr9 hb9⟨g,c,e9,-⟩;exact hK v9 w9 ⟨g,c,e9,hr9⟩ hb9 (hM.up hb9)
  |4,_,ho =>
   cases ho;go_simp;exact hK (.slice (some ⟨W.heap.size,0,none⟩) 0 0) _ ⟨_,rfl,hM.bel.size,Blk.new _ _ _⟩ ((zR _ _).alloc (yR _) _) (hM.up ((zR _ _).alloc (yR _) _))
  |5,_,ho =>
   cases ho;have f2:=a0a (v:= .pointer (some ⟨B2,0,none⟩)) (hA.at_ (k:=2) (by kernel_rfl));go_simp;exact hK (.pointer (some ⟨B2,1,none⟩)) W rfl (zR _ _) hM
  |6,_,ho =>
   cases ho;have f13:=a0a (v:= .pointer (some ⟨B2,1,none⟩)) (a0i hD 5 13 (by kernel_rfl) rfl rfl);have z0:W.cell? ⟨B2,1,none⟩=some (kv):=hM.c1;go_simp;exact hK (kv) W rfl (zR _ _) hM
  |7,_,ho =>
   cases ho;have f12:=a0i hD 4 12 (by kernel_rfl) rfl rfl;have f14:=a0a (v:=kv) (a0i hD 6 14 (by kernel_rfl) rfl rfl);obtain⟨Z,h1,h2,h3⟩:=f12;refine El.step_freshO b7x d3t _ _ (by rfl) _ Z h1 (a6b h3 h2) _ K (b3k f14) hM.k hFk hKl hM.bel.size ?_;rintro v9 w9 hr9 hb9⟨g,c,e9,-⟩;exact hK v9 w9 ⟨g,c,e9,hr9⟩ hb9 (hM.up hb9)
  |8,_,ho =>
   cases ho;go_simp;exact hK (.slice (some ⟨W.heap.size,0,none⟩) 0 0) _ ⟨_,rfl,hM.bel.size,Blk.new _ _ _⟩ ((zR _ _).alloc (yR _) _) (hM.up ((zR _ _).alloc (yR _) _))
  |9,_,ho =>
   cases ho;have f2:=a0a (v:= .pointer (some ⟨B2,0,none⟩)) (hA.at_ (k:=2) (by kernel_rfl));go_simp;exact hK (.pointer (some ⟨B2,2,none⟩)) W rfl (zR _ _) hM
  |10,_,ho =>
   cases ho;have f17:=a0a (v:= .pointer (some ⟨B2,2,none⟩)) (a0i hD 9 17 (by kernel_rfl) rfl rfl);have z0:W.cell? ⟨B2,2,none⟩=some (lv):=hM.c2;go_simp;exact hK (lv) W rfl (zR _ _) hM
  |11,_,ho =>
   cases ho;have f16:=a0i hD 8 16 (by kernel_rfl) rfl rfl;have f18:=a0a (v:=lv) (a0i hD 10 18 (by kernel_rfl) rfl rfl);obtain⟨Z,h1,h2,h3⟩:=f16;refine El.step_freshO a7r d2g _ _ (by rfl) _ Z h1 (a6b h3 h2) _ L (b3k f18) hM.l hFl hLl hM.bel.size ?_;rintro v9 w9 hr9 hb9⟨g,c,e9,-⟩;exact hK v9 w9 ⟨g,c,e9,hr9⟩ hb9 (hM.up hb9)
  |12,_,ho =>
   cases ho;have f11:=a0i hD 3 11 (by kernel_rfl) rfl rfl;have f15:=a0i hD 7 15 (by kernel_rfl) rfl rfl;have f19:=a0i hD 11 19 (by kernel_rfl) rfl rfl;obtain⟨ga,ca,a1,a2⟩:=f11;obtain⟨gb,cb,b1,b2⟩:=f15;obtain⟨gc,cc,c1,c2⟩:=f19;rw[a1] at a2;rw[b1] at b2;rw[c1] at c2;have e11:=a0a a1;have e15:=a0a b1;have e19:=a0a c1;go_simp;exact hK _ W ⟨ga,ca,gb,cb,gc,cc,rfl,a2,b2,c2⟩ (zR _ _) hM
  |13,_,ho =>
   cases ho;go_simp;exact hK (.pointer (some ⟨W.heap.size,0,none⟩)) _ ⟨_,rfl,hM.bel.size,Blk.new _ _ _⟩ ((zR _ _).alloc (yR _) _) (hM.up ((zR _ _).alloc (yR _) _))
  |i+14,hi,_=>exact absurd hi (by omega)
 case tail1 =>
  intro bb W hM hA hall;obtain⟨da,dc,ka,kc,la,lc,e20,hr11,hr15,hr19⟩:=(show ∃ga ca gb cb gc cc,bb.eval (.tmp 20)= .agg #[.slice (some ⟨ga,0,none⟩) D.length ca,.slice (some ⟨gb,0,none⟩) K.length cb,.slice (some ⟨gc,0,none⟩) L.length cc]∧W.ownsRow W1.heap.size 54 4 (.slice (some ⟨ga,0,none⟩) D.length ca) D.length (D.flatMap dtE.enc)∧W.ownsRow W1.heap.size 82 3 (.slice (some ⟨gb,0,none⟩) K.length cb) K.length (K.flatMap keE.enc)∧W.ownsRow W1.heap.size 68 3 (.slice (some ⟨gc,0,none⟩) L.length cc) L.length (L.flatMap lfE.enc) from hall 12 (by omega) _ _ rfl rfl);obtain⟨B5,e5,hB5,k5⟩:=(show ∃Z,bb.eval (.tmp 5)= .pointer (some ⟨Z,0,none⟩)∧W1.heap.size≤Z∧Blk W Z #[.slice none 0 0,.slice none 0 0,.slice none 0 0] 45 from hall 13 (by omega) _ _ rfl rfl);have hfr:=hA.frame [T,T,T,T,T,F,T,T,F,F,F,F,F,F,F,F,F,F,F,F,F,T,T,T,T,T,T,T,T,T,T,T,T,T,T,T,T,T,T,T,T,T,T,T,T,T,T,T,T,T,T,T,T,T,T,T,T,T,T,T,T,T,T,T,T,T,T,T,T,T,T,T,T,T,T,T,T,T,T,T,T,T,T,T,T,T,T,T,T,T,T,T,T,T,T,T,T,T,T,T,T,T,T,T,T,T,T,T,T,T,T,T,T,T,T,T,T,T,T,T,T,T,T,T,T,T,T,T,T,T,T,T,T,T,T,T,T,T,T,T,T,T,T,T,T,T,T,T,T,T,T,T,T,T,T,T,T,T,T,T,T,T,T,T,T,T,T,T,T,T,T,T,T,T,T,T,T,T,T,T,T,T,T,T,T,T,T,T,T,T,T,T,T,T,T,T,T,T,T,T,T,T,T,T,T,T,T,T,T,T,T,T,T,T,T,T,T,T,T,T,T,T,T,T,T,T,T,T,T,T,T,T,T,T,T,T,T,T,T,T,T,T,T,T] _ rfl (by kernel_rfl);clear hall hA;obtain⟨f,hf⟩:∃f:Nat→Value,(fun k=>bb.tmps.getD k undef)=f:=⟨_,rfl⟩;have g20:f 20= .agg #[.slice (some ⟨da,0,none⟩) D.length dc,.slice (some ⟨ka,0,none⟩) K.length kc,.slice (some ⟨la,0,none⟩) L.length lc]:=by rw[←hf,←e20];rfl
  have g5:f 5= .pointer (some ⟨B5,0,none⟩):=by rw[←hf,←e5];rfl
  rw[hf] at hfr;clear hf e20 e5;subst hfr;simp only[a2k,g20,g5,Nat.reduceAdd];clear g20 g5;simp only[List.drop_succ_cons,List.drop_zero];have hbM:=hM.bel;have k3M:=k3.below hbM k3.lt;have k4M:=k4.below hbM k4.lt;have hwM:Below B2 w W:=hw1.trans (hbM.mono hz1);have hzM:=hwM.size;have hsM:=hbM.size;have y0:W.cell? ⟨B5,0,none⟩=some (.slice none 0 0):=k5.cell 0;have y1:W.cell? ⟨B5,1,none⟩=some (.slice none 0 0):=k5.cell 1;have y2:W.cell? ⟨B5,2,none⟩=some (.slice none 0 0):=k5.cell 2;have z0:W.frozen? ⟨B5,0,none⟩=false:=k5.frozen 0;have z1:W.frozen? ⟨B5,1,none⟩=false:=k5.frozen 1;have z2:W.frozen? ⟨B5,2,none⟩=false:=k5.frozen 2;clear hM k2 k3 k4 hw1 hbM hd1 hk1 hl1;go_upto_region 2 with fail;have hPR:=PR3.init (n0:=B2) hr11 hr15 hr19 k5 hz1 (Nat.le_trans hz1 hB5) (Nat.le_trans hz1 hsM);have hne3:B2+1≠B5:=fun e=>by rw[e] at k3M;have:=k3M.symm.trans k5;simp at this
  have hne4:B2+1+1≠B5:=by omega
  obtain⟨W2,hW2⟩:∃X,((W.setCell ⟨B5,0,none⟩ (.slice (some ⟨da,0,none⟩) D.length dc)).setCell ⟨B5,1,none⟩ (.slice (some ⟨ka,0,none⟩) K.length kc)).setCell ⟨B5,2,none⟩ (.slice (some ⟨la,0,none⟩) L.length lc)=X:=⟨_,rfl⟩;have k3N:Blk W2 (B2+1) #[.int .i64 q0,.int .i64 q1,.int .i64 q2] 23:=by
   rw[←hW2];exact (((a0h _ _ _ _).block _ (by simpa using k3M.lt) (by simpa using hne3)).trans (((a0h _ _ _ _).block _ (by simpa using k3M.lt) (by simpa using hne3)).trans ((a0h _ _ _ _).block _ k3M.lt (by simpa using hne3)))).trans k3M
  have k4N:Blk W2 (B2+1+1) #[.slice none 0 0,.slice none 0 0,.slice none 0 0] 45:=by
   rw[←hW2];exact (((a0h _ _ _ _).block _ (by simpa using k4M.lt) (by simpa using hne4)).trans (((a0h _ _ _ _).block _ (by simpa using k4M.lt) (by simpa using hne4)).trans ((a0h _ _ _ _).block _ k4M.lt (by simpa using hne4)))).trans k4M
  have hb5:B2≤B5:=Nat.le_trans hz1 hB5;have hwN:Below B2 w W2:=by
   rw[←hW2];exact ((hwM.setCell hb5 _).setCell hb5 _).setCell hb5 _
  rw[hW2] at hPR ⊢;clear hW2 hr11 hr15 hr19 k5 hB5 k3M k4M hwM hzM hsM y0 y1 y2 z0 z1 z2 hz1 hDl hKl hLl hFd hFk hFl;have i0:W2.cell? ⟨B2+1,0,none⟩=some (.int .i64 q0):=k3N.cell 0;have i1:W2.cell? ⟨B2+1,1,none⟩=some (.int .i64 q1):=k3N.cell 1;have i2:W2.cell? ⟨B2+1,2,none⟩=some (.int .i64 q2):=k3N.cell 2;go_upto_block 0 with fail;obtain⟨x1,hx1,p1⟩:=c6l q1;obtain⟨x2,hx2,p2⟩:=c6l q2;obtain⟨x0,hx0,p0⟩:=c6l q0;rw[hx0,hx1,hx2];obtain⟨k,hk,hk3⟩:=c6m x1 p1 300 (by decide);obtain⟨nn,hnn,hn5⟩:=c6m x2 p2 5 (by decide);obtain⟨r,hr,hr9⟩:=c6m x0 p0 9 (by decide);rw[show ((300:Nat):Int)=300 from rfl] at hk;rw[show ((5:Nat):Int)=5 from rfl] at hnn;rw[show ((9:Nat):Int)=9 from rfl] at hr;rw[hk,hnn,hr];clear hk hnn hr i0 i1 i2 k3N hne3 hx0 hx1 hx2 p0 p1 p2;go_cut [] (fun wx=>PO w B2 (B2+1+1) B5 (n+1) wx)
  case first =>
   have hD9:=hw.dl;have hK9:=hw.kl;have hL9:=hw.ll;simp only at hD9 hK9 hL9;have b0:W2.cell? ⟨B5,0,none⟩=some (.slice (some ⟨da,0,none⟩) D.length dc):=hPR.b.cell 0;have b1:W2.cell? ⟨B5,1,none⟩=some (.slice (some ⟨ka,0,none⟩) K.length kc):=hPR.b.cell 1;have b2:W2.cell? ⟨B5,2,none⟩=some (.slice (some ⟨la,0,none⟩) L.length lc):=hPR.b.cell 2;have hda:B2≤da:=c0z hPR.d rfl;have hka:B2≤ka:=c0z hPR.k rfl;have hla:B2≤la:=c0z hPR.l rfl;obtain⟨cd,kd⟩:∃c,Blk W2 da c 54:=a2c hPR.d rfl;obtain⟨ck,kk⟩:∃c,Blk W2 ka c 82:=a2c hPR.k rfl;obtain⟨cl,kl⟩:∃c,Blk W2 la c 68:=a2c hPR.l rfl;have hz2:=hPR.z;have same:PO w B2 (B2+1+1) B5 (n+1) W2:=⟨⟨_,_,_,_,_,_,_,_,_,hPR,hw.mono (Nat.le_succ n)⟩,hwN,k4N⟩;match r,hr9 with
   |0,_ =>
    as_aux_lemma =>
     by_cases hp0:D=[]
     ·subst hp0
      go_wp2_with fail;go_meet;exact same
     have hlp:0<D.length:=List.length_pos_iff.2 hp0;obtain⟨ix,hp,hpl⟩:=b5j k hlp;have hkl:(D.take ix).length=ix:=by rw[List.length_take];omega
     have hcap:D.length≤dc:=(a0b a6m hPR.d (by omega)).form_cap;have hcl:(D.take ix).length+(D.drop (ix+1)).length≤100000:=by rw[List.length_take,List.length_drop];omega
     have hixl:ix+1≤D.length:=hpl;have hW:=hw.dots (D':=D.take ix++D.drop (ix+1)) (fun d hd=>c6j hd) (c6k D ix);obtain⟨m,hm⟩:∃m,D.length=m:=⟨_,rfl⟩;rw[hm] at hp b0 hcap hixl;have hpI:(ix:Int)<(m:Int):=by omega
     have hfI:(0:Int)<(m:Int):=by omega
     have hfI2:((m:Int)==0)=false:=by simp;omega
     have hj1:IntKind.i64.wrap ((ix:Int)+1)=(ix:Int)+1:=a0u (by omega) (by omega);have hj2:(ix:Int)+1≤(m:Int):=by omega
     have hj3:((ix:Int)+1).toNat=ix+1:=by omega
     have hj4:(ix:Int)≤(dc:Int):=by omega
     replace hm:=Lib.hid hm;clear same hp0 hlp;go_upto_region 7 with fail;first|with_reducible refine a0c 17 (by kernel_rfl) (by kernel_rfl) ?_|with_reducible refine a0d 17 (by kernel_rfl) (by kernel_rfl) ?_
     simp only[List.take_succ_cons,List.take_zero,List.drop_succ_cons,List.drop_zero];repeat (first|go_big_quiet_step (fail)|quiet_step (fail))
     refine wpQuiet_nil ?_;intro _ hw_;obtain⟨p,hw_⟩:=hw_;subst hw_;have hPw:=hPR.up (Go.below_growBy W2 p);have hL:=a0b a6m hPw.d (by omega);have hF:=a6j hPw.d;have hT:=b1w (k:=ix+1) hL hF (by have:=hm.out;omega);rw[hm.out] at hT;have e1:Option.map (fun x=>Addr.add x ((ix+1)*dtE.s)) (some (⟨da,0,none⟩:Addr))=some ⟨da,(ix+1)*dtE.s,none⟩:=by simp[Addr.add]
     rw[e1] at hT;refine El.joinO (n0:=(W2.growBy p).heap.size) a6m d3o (by rfl) _ _ (by rfl) B2 (by rfl) (D.take ix) (b1x a6m hPw.d (by have:=hm.out;omega)) ⟨_,_,by rw[hkl]⟩ (D.drop (ix+1)) (by rfl) ?hx ?hf hcl hPw.z ?_
     case hx=>go_simp;have h9:=hT.1;rw[World.size_growBy] at h9;exact h9
     case hf=>go_simp;have h9:=hT.2;rw[List.length_drop] at h9;exact h9
     rintro v9 w9 hr9 hg9⟨g9,c9,rfl⟩ -;obtain⟨l2,hl2⟩:∃x,D.take ix++D.drop (ix+1)=x:=⟨_,rfl⟩;rw[hl2] at hr9 hW;simp only[hl2];obtain⟨k9,hQ⟩:=hPw.dots hg9 hr9;have y9:=k9.cell 0;have z9:=k9.frozen 0;have hfin:=PO.mk' hg9 ((kd).below (Go.below_growBy W2 p) (kd).lt) (by decide) hda hPw.z (hwN.trans ((Go.below_growBy W2 p).mono hz2)) (k4N.below (Go.below_growBy W2 p) k4N.lt) hb5 hne4 hQ hW;clear hPR hPw hL hF hT hr9 hg9 hQ k9;go_wp2_with fail
     all_goals go_meet
     all_goals exact hfin
   |1,_ =>
    as_aux_lemma =>
     by_cases hp0:D=[]
     ·subst hp0
      go_wp2_with fail;go_meet;exact same
     have hlp:0<D.length:=List.length_pos_iff.2 hp0;obtain⟨ix,hp,hpl⟩:=b5j k hlp;obtain⟨c0,z0⟩:=a4j (E:=dtE) a6m hPR.d (by omega) hpl (i:=0) (by decide);obtain⟨y,hy⟩:∃y,D[ix]=y:=⟨_,rfl⟩;have hym:y∈D:=by rw[←hy];exact List.getElem_mem hpl
     rw[hy] at c0;replace c0:W2.cell? ⟨da,ix*4,none⟩=some (.int .i64 y.x):=c0;replace z0:W2.frozen? ⟨da,ix*4,none⟩=false:=z0;have hyb:=hw.dx y hym;have w1:wrap64 (y.x+(nn:Int))=y.x+(nn:Int):=IntWalk.wrap64_in _ (by omega);have w2:wrap64 (y.x+(nn:Int)-2)=y.x+(nn:Int)-2:=IntWalk.wrap64_in _ (by omega);have hX:=hPR.setD hpl (i:=0) (y:={ y with x:=y.x+(nn:Int)-2 }) (u:= .int .i64 (y.x+(nn:Int)-2)) (by decide) (by rw[hy];rfl);have hW:=hw.dot (ix:=ix) (y:={ y with x:=y.x+(nn:Int)-2 }) ⟨⟨by simp only;omega,by simp only;omega⟩,by simp only;omega,by simp only;omega⟩;have hg:=a0h W2 da (ix*4+0) (.int .i64 (y.x+(nn:Int)-2));have hfin:PO w B2 (B2+1+1) B5 (n+1) (W2.setCell ⟨da,ix*4,none⟩ (.int .i64 (y.x+(nn:Int)-2))):=⟨⟨_,_,_,_,_,_,_,_,_,hX,hW⟩,hwN.setCell (p:=⟨da,ix*4,none⟩) hda _,k4N.keep hg kd (by decide)⟩;obtain⟨m,hm⟩:∃m,D.length=m:=⟨_,rfl⟩;rw[hm] at hp hpl b0 hlp;have hpI:(ix:Int)<(m:Int):=by omega
     have hfI:(0:Int)<(m:Int):=by omega
     have hfI2:((m:Int)==0)=false:=by simp;omega
     clear same hX hW hg hym hy hp0 hm hlp hPR;go_upto_region 10 with fail;first|with_reducible refine a0c 20 (by kernel_rfl) (by kernel_rfl) ?_|with_reducible refine a0d 20 (by kernel_rfl) (by kernel_rfl) ?_
     simp only[List.take_succ_cons,List.take_zero,List.drop_succ_cons,List.drop_zero];repeat (first|go_big_quiet_step (fail)|quiet_step (fail))
     refine wpQuiet_nil ?_;intro _ hw_;obtain⟨p,hw_⟩:=hw_;subst hw_;go_wp2_with fail;go_meet;exact hfin.up (Go.below_growBy _ _)
   |2,_ =>
    as_aux_lemma =>
     by_cases hp0:D=[]
     ·subst hp0
      go_wp2_with fail;go_meet;exact same
     have hlp:0<D.length:=List.length_pos_iff.2 hp0;obtain⟨ix,hp,hpl⟩:=b5j k hlp;obtain⟨c0,z0⟩:=a4j (E:=dtE) a6m hPR.d (by omega) hpl (i:=3) (by decide);obtain⟨y,hy⟩:∃y,D[ix]=y:=⟨_,rfl⟩;have hym:y∈D:=by rw[←hy];exact List.getElem_mem hpl
     rw[hy] at c0;replace c0:W2.cell? ⟨da,ix*4+3,none⟩=some (.int .i64 y.i):=c0;replace z0:W2.frozen? ⟨da,ix*4+3,none⟩=false:=z0;have hX:=hPR.setD hpl (i:=3) (y:={ y with i:=wrap64 (y.i+(nn:Int)) }) (u:= .int .i64 (wrap64 (y.i+(nn:Int)))) (by decide) (by rw[hy];rfl);have hW:=hw.dot (ix:=ix) (y:={ y with i:=wrap64 (y.i+(nn:Int)) }) (by obtain⟨⟨h1,h2⟩,h3,h4⟩:=hw.dx y hym;exact⟨⟨by simp only;omega,by simp only;omega⟩,by simp only;omega,by simp only;omega⟩);have hg:=a0h W2 da (ix*4+3) (.int .i64 (wrap64 (y.i+(nn:Int))));have hfin:PO w B2 (B2+1+1) B5 (n+1) (W2.setCell ⟨da,ix*4+3,none⟩ (.int .i64 (wrap64 (y.i+(nn:Int))))):=⟨⟨_,_,_,_,_,_,_,_,_,hX,hW⟩,hwN.setCell (p:=⟨da,ix*4+3,none⟩) hda _,k4N.keep hg kd (by decide)⟩;obtain⟨m,hm⟩:∃m,D.length=m:=⟨_,rfl⟩;rw[hm] at hp hpl b0 hlp;have hpI:(ix:Int)<(m:Int):=by omega
     have hfI:(0:Int)<(m:Int):=by omega
     have hfI2:((m:Int)==0)=false:=by simp;omega
     clear same hX hW hg hym hy hp0 hm hlp hPR;go_upto_region 13 with fail;first|with_reducible refine a0c 19 (by kernel_rfl) (by kernel_rfl) ?_|with_reducible refine a0d 19 (by kernel_rfl) (by kernel_rfl) ?_
     simp only[List.take_succ_cons,List.take_zero,List.drop_succ_cons,List.drop_zero];repeat (first|go_big_quiet_step (fail)|quiet_step (fail))
     refine wpQuiet_nil ?_;intro _ hw_;obtain⟨p,hw_⟩:=hw_;subst hw_;go_wp2_with fail;go_meet;exact hfin.up (Go.below_growBy _ _)
   |3,_ =>
    as_aux_lemma =>
     by_cases hp0:K=[]
     ·subst hp0
      go_wp2_with fail;go_meet;exact same
     have hlp:0<K.length:=List.length_pos_iff.2 hp0;obtain⟨ix,hp,hpl⟩:=b5j k hlp;obtain⟨c0,z0⟩:=a4j (E:=keE) b7x hPR.k (by omega) hpl (i:=2) (by decide);obtain⟨y,hy⟩:∃y,K[ix]=y:=⟨_,rfl⟩;have hym:y∈K:=by rw[←hy];exact List.getElem_mem hpl
     rw[hy] at c0;replace c0:W2.cell? ⟨ka,ix*3+2,none⟩=some (.string y.c):=c0;replace z0:W2.frozen? ⟨ka,ix*3+2,none⟩=false:=z0;have hyc:=hw.kc y hym;have hys:¬9223372036854775807<y.c.size+1:=by omega
     have hX:=hPR.setK hpl (i:=2) (y:={ y with c:=y.c++⟨#[97]⟩ }) (u:= .string (y.c++⟨#[97]⟩)) (by decide) (by rw[hy];rfl);have hW:=hw.key (ix:=ix) (y:={ y with c:=y.c++⟨#[97]⟩ }) (by simp only[ByteArray.size_append];have:(ByteArray.mk #[97]).size=1:=rfl;omega);have hg:=a0h W2 ka (ix*3+2) (.string (y.c++⟨#[97]⟩));have hfin:PO w B2 (B2+1+1) B5 (n+1) (W2.setCell ⟨ka,ix*3+2,none⟩ (.string (y.c++⟨#[97]⟩))):=⟨⟨_,_,_,_,_,_,_,_,_,hX,hW⟩,hwN.setCell (p:=⟨ka,ix*3+2,none⟩) hka _,k4N.keep hg kk (by decide)⟩;obtain⟨m,hm⟩:∃m,K.length=m:=⟨_,rfl⟩;rw[hm] at hp hpl b1 hlp;have hpI:(ix:Int)<(m:Int):=by omega
     have hfI:(0:Int)<(m:Int):=by omega
     have hfI2:((m:Int)==0)=false:=by simp;omega
     clear same hX hW hg hym hy hp0 hm hlp hPR;go_upto_region 16 with fail;first|with_reducible refine a0c 18 (by kernel_rfl) (by kernel_rfl) ?_|with_reducible refine a0d 18 (by kernel_rfl) (by kernel_rfl) ?_
     simp only[List.take_succ_cons,List.take_zero,List.drop_succ_cons,List.drop_zero];repeat (first|go_big_quiet_step (fail)|quiet_step (fail))
     refine wpQuiet_nil ?_;intro _ hw_;obtain⟨p,hw_⟩:=hw_;subst hw_;go_wp2_with fail;go_meet;exact hfin.up (Go.below_growBy _ _)
   |4,_ =>
    as_aux_lemma =>
     by_cases hp0:K=[]
     ·subst hp0
      go_wp2_with fail;go_meet;exact same
     have hlp:0<K.length:=List.length_pos_iff.2 hp0;obtain⟨ix,hp,hpl⟩:=b5j k hlp;have hkl:(K.take ix).length=ix:=by rw[List.length_take];omega
     have hcap:K.length≤kc:=(a0b b7x hPR.k (by omega)).form_cap;have hW:=hw.keys (K':=K.take ix) (fun d hd=>List.mem_of_mem_take hd) (by rw[hkl];omega);have hr9:=b1x b7x hPR.k (k:=ix) (by omega);obtain⟨k9,hQ⟩:=hPR.keys (K':=K.take ix) (g':=ka) (c':=kc) (b3m W2 _) (by have h:=hr9;rw[hkl] at h ⊢;exact h);have y9:=k9.cell 1;have z9:=k9.frozen 1;have hfin:=PO.mk' (b3m W2 (some ka)) kk (by decide) hka hz2 hwN k4N hb5 hne4 hQ hW;rw[hkl] at hfin;obtain⟨m,hm⟩:∃m,K.length=m:=⟨_,rfl⟩;rw[hm] at hp b1 hcap hpl;have hpI:(ix:Int)<(m:Int):=by omega
     have hfI:(0:Int)<(m:Int):=by omega
     have hfI2:((m:Int)==0)=false:=by simp;omega
     have hj4:(ix:Int)≤(kc:Int):=by omega
     clear same hp0 hlp hm hQ k9 hr9 hPR hkl hW y9;go_upto_region 19 with fail;first|with_reducible refine a0c 8 (by kernel_rfl) (by kernel_rfl) ?_|with_reducible refine a0d 8 (by kernel_rfl) (by kernel_rfl) ?_
     simp only[List.take_succ_cons,List.take_zero,List.drop_succ_cons,List.drop_zero];repeat (first|go_big_quiet_step (fail)|quiet_step (fail))
     refine wpQuiet_nil ?_;intro _ hw_;obtain⟨p,hw_⟩:=hw_;subst hw_;go_wp2_with fail;go_meet;exact hfin.up (Go.below_growBy _ _)
   |5,_ =>
    as_aux_lemma =>
     by_cases hp0:L=[]
     ·subst hp0
      go_wp2_with fail;go_meet;exact same
     have hlp:0<L.length:=List.length_pos_iff.2 hp0;obtain⟨ix,hp,hpl⟩:=b5j k hlp;have hkl:(L.take ix).length=ix:=by rw[List.length_take];omega
     have hcap:L.length≤lc:=(a0b a7r hPR.l (by omega)).form_cap;have hcl:(L.take ix).length+(L.drop (ix+1)).length≤100000:=by rw[List.length_take,List.length_drop];omega
     have hixl:ix+1≤L.length:=hpl;have hW:=hw.lefts (L':=L.take ix++L.drop (ix+1)) (fun d hd=> .inl (c6j hd)) (Nat.le_succ_of_le (c6k L ix));obtain⟨m,hm⟩:∃m,L.length=m:=⟨_,rfl⟩;rw[hm] at hp b2 hcap hixl;have hpI:(ix:Int)<(m:Int):=by omega
     have hfI:(0:Int)<(m:Int):=by omega
     have hfI2:((m:Int)==0)=false:=by simp;omega
     have hj1:IntKind.i64.wrap ((ix:Int)+1)=(ix:Int)+1:=a0u (by omega) (by omega);have hj2:(ix:Int)+1≤(m:Int):=by omega
     have hj3:((ix:Int)+1).toNat=ix+1:=by omega
     have hj4:(ix:Int)≤(lc:Int):=by omega
     replace hm:=Lib.hid hm;clear same hp0 hlp;go_upto_region 22 with fail;first|with_reducible refine a0c 17 (by kernel_rfl) (by kernel_rfl) ?_|with_reducible refine a0d 17 (by kernel_rfl) (by kernel_rfl) ?_
     simp only[List.take_succ_cons,List.take_zero,List.drop_succ_cons,List.drop_zero];repeat (first|go_big_quiet_step (fail)|quiet_step (fail))
     refine wpQuiet_nil ?_;intro _ hw_;obtain⟨p,hw_⟩:=hw_;subst hw_;have hPw:=hPR.up (Go.below_growBy W2 p);have hL:=a0b a7r hPw.l (by omega);have hF:=a6j hPw.l;have hT:=b1w (k:=ix+1) hL hF (by have:=hm.out;omega);rw[hm.out] at hT;have e1:Option.map (fun x=>Addr.add x ((ix+1)*lfE.s)) (some (⟨la,0,none⟩:Addr))=some ⟨la,(ix+1)*lfE.s,none⟩:=by simp[Addr.add]
     rw[e1] at hT;refine El.joinO (n0:=(W2.growBy p).heap.size) a7r d2g (by rfl) _ _ (by rfl) B2 (by rfl) (L.take ix) (b1x a7r hPw.l (by have:=hm.out;omega)) ⟨_,_,by rw[hkl]⟩ (L.drop (ix+1)) (by rfl) ?hx ?hf hcl hPw.z ?_
     case hx=>go_simp;have h9:=hT.1;rw[World.size_growBy] at h9;exact h9
     case hf=>go_simp;have h9:=hT.2;rw[List.length_drop] at h9;exact h9
     rintro v9 w9 hr9 hg9⟨g9,c9,rfl⟩ -;obtain⟨l2,hl2⟩:∃x,L.take ix++L.drop (ix+1)=x:=⟨_,rfl⟩;rw[hl2] at hr9 hW;simp only[hl2];obtain⟨k9,hQ⟩:=hPw.left hg9 hr9;have y9:=k9.cell 2;have z9:=k9.frozen 2;have hfin:=PO.mk' hg9 ((kl).below (Go.below_growBy W2 p) (kl).lt) (by decide) hla hPw.z (hwN.trans ((Go.below_growBy W2 p).mono hz2)) (k4N.below (Go.below_growBy W2 p) k4N.lt) hb5 hne4 hQ hW;clear hPR hPw hL hF hT hr9 hg9 hQ k9;go_wp2_with fail
     all_goals go_meet
     all_goals exact hfin
   |6,_ =>
    as_aux_lemma =>
     by_cases hp0:L=[]
     ·subst hp0
      go_wp2_with fail;go_meet;exact same
     have hlp:0<L.length:=List.length_pos_iff.2 hp0;obtain⟨ix,hp,hpl⟩:=b5j k hlp;obtain⟨c0,z0⟩:=a4j (E:=lfE) a7r hPR.l (by omega) hpl (i:=2) (by decide);obtain⟨y,hy⟩:∃y,L[ix]=y:=⟨_,rfl⟩;have hym:y∈L:=by rw[←hy];exact List.getElem_mem hpl
     rw[hy] at c0;replace c0:W2.cell? ⟨la,ix*3+2,none⟩=some (.int .i64 y.i):=c0;replace z0:W2.frozen? ⟨la,ix*3+2,none⟩=false:=z0;have hX:=hPR.setL hpl (i:=2) (y:={ y with i:=wrap64 (wrap64 (y.i+(nn:Int))-2) }) (u:= .int .i64 (wrap64 (wrap64 (y.i+(nn:Int))-2))) (by decide) (by rw[hy];rfl);have hW:=hw.leftS (ix:=ix) (y:={ y with i:=wrap64 (wrap64 (y.i+(nn:Int))-2) }) (a0j _);have hg:=a0h W2 la (ix*3+2) (.int .i64 (wrap64 (wrap64 (y.i+(nn:Int))-2)));have hfin:PO w B2 (B2+1+1) B5 (n+1) (W2.setCell ⟨la,ix*3+2,none⟩ (.int .i64 (wrap64 (wrap64 (y.i+(nn:Int))-2)))):=⟨⟨_,_,_,_,_,_,_,_,_,hX,hW⟩,hwN.setCell (p:=⟨la,ix*3+2,none⟩) hla _,k4N.keep hg kl (by decide)⟩;obtain⟨m,hm⟩:∃m,L.length=m:=⟨_,rfl⟩;rw[hm] at hp hpl b2 hlp;have hpI:(ix:Int)<(m:Int):=by omega
     have hfI:(0:Int)<(m:Int):=by omega
     have hfI2:((m:Int)==0)=false:=by simp;omega
     clear same hX hW hg hym hy hp0 hm hlp hPR;go_upto_region 25 with fail;first|with_reducible refine a0c 20 (by kernel_rfl) (by kernel_rfl) ?_|with_reducible refine a0d 20 (by kernel_rfl) (by kernel_rfl) ?_
     simp only[List.take_succ_cons,List.take_zero,List.drop_succ_cons,List.drop_zero];repeat (first|go_big_quiet_step (fail)|quiet_step (fail))
     refine wpQuiet_nil ?_;intro _ hw_;obtain⟨p,hw_⟩:=hw_;subst hw_;go_wp2_with fail;go_meet;exact hfin.up (Go.below_growBy _ _)
   |7,_ =>
    as_aux_lemma =>
     by_cases hp0:L=[]
     ·subst hp0
      go_wp2_with fail;go_meet;exact same
     have hlp:0<L.length:=List.length_pos_iff.2 hp0;obtain⟨ix,hp,hpl⟩:=b5j k hlp;obtain⟨c0,z0⟩:=a4j (E:=lfE) a7r hPR.l (by omega) hpl (i:=1) (by decide);obtain⟨y,hy⟩:∃y,L[ix]=y:=⟨_,rfl⟩;have hym:y∈L:=by rw[←hy];exact List.getElem_mem hpl
     rw[hy] at c0;replace c0:W2.cell? ⟨la,ix*3+1,none⟩=some (.int .i64 y.k):=c0;replace z0:W2.frozen? ⟨la,ix*3+1,none⟩=false:=z0;have hX:=hPR.setL hpl (i:=1) (y:={ y with k:=(nn:Int) }) (u:= .int .i64 (nn:Int)) (by decide) (by rw[hy];rfl);have hW:=hw.leftS (ix:=ix) (y:={ y with k:=(nn:Int) }) (hw.lf y hym);have hg:=a0h W2 la (ix*3+1) (.int .i64 (nn:Int));have hfin:PO w B2 (B2+1+1) B5 (n+1) (W2.setCell ⟨la,ix*3+1,none⟩ (.int .i64 (nn:Int))):=⟨⟨_,_,_,_,_,_,_,_,_,hX,hW⟩,hwN.setCell (p:=⟨la,ix*3+1,none⟩) hla _,k4N.keep hg kl (by decide)⟩;obtain⟨m,hm⟩:∃m,L.length=m:=⟨_,rfl⟩;rw[hm] at hp hpl b2 hlp;have hpI:(ix:Int)<(m:Int):=by omega
     have hfI:(0:Int)<(m:Int):=by omega
     have hfI2:((m:Int)==0)=false:=by simp;omega
     clear same hX hW hg hym hy hp0 hm hlp hPR;go_upto_region 28 with fail;first|with_reducible refine a0c 8 (by kernel_rfl) (by kernel_rfl) ?_|with_reducible refine a0d 8 (by kernel_rfl) (by kernel_rfl) ?_
     simp only[List.take_succ_cons,List.take_zero,List.drop_succ_cons,List.drop_zero];repeat (first|go_big_quiet_step (fail)|quiet_step (fail))
     refine wpQuiet_nil ?_;intro _ hw_;obtain⟨p,hw_⟩:=hw_;subst hw_;go_wp2_with fail;go_meet;exact hfin.up (Go.below_growBy _ _)
   |8,_ =>
    as_aux_lemma =>
     obtain⟨ix,hp,hpl⟩:=b5j k (m:=8) (by decide);have hpI:(k:Int) % 8=(ix:Int):=by rw[←hp,Int.tmod_eq_emod_of_nonneg (by omega)];rfl
     have hp8:(ix:Int)<8:=by omega
     have hw8:IntKind.i64.wrap (60+(ix:Int))=60+(ix:Int):=a0u (by omega) (by omega);have hW:=hw.lefts (L':=L++[⟨60+(ix:Int),0,0⟩]) (fun d hd=>by
      rcases List.mem_append.1 hd with h|h
      ·exact .inl h
      ·rw[List.mem_singleton] at h
       subst h;exact .inr ⟨by simp only;omega,by simp only;omega⟩) (by simp)
     clear same;go_upto_region 30 with fail;go_wp2_with (first
      |(at_builtin;refine El.pushO a7r d2g (by rfl) _ _ (by rfl) (by rfl) hPR.l ⟨60+(ix:Int),0,0⟩ (by rfl) rfl hPR.z (by omega) ?_;intro v9 w9 hr9 ho9 hg9 hb9
        obtain⟨l2,hl2⟩:∃x,L++[⟨60+(ix:Int),0,0⟩]=x:=⟨_,rfl⟩;have hl2p:0<l2.length:=by rw[←hl2];simp
        rw[hl2] at hr9 hW;obtain⟨g9,c9,rfl⟩:=c9t hr9 hl2p;obtain⟨k9,hQ⟩:=hPR.left hg9 hr9;have y9:=k9.cell 2;have z9:=k9.frozen 2;have hfin:=PO.mk' hg9 kl (by decide) hla hz2 hwN k4N hb5 hne4 hQ hW;clear hPR hr9 hg9 hQ k9 hl2 hl2p ho9 hb9)
      |fail)
     go_meet;exact hfin
   |n+9,h=>omega
  case rest =>
   obtain⟨⟨ga,gk,gl,c0,c1,c2,D',K',L',hR,hWl⟩,hbel,hb4⟩:=hcut;have b0:wc.cell? ⟨B5,0,none⟩=some (.slice (some ⟨ga,0,none⟩) D'.length c0):=hR.b.cell 0;have b1:wc.cell? ⟨B5,1,none⟩=some (.slice (some ⟨gk,0,none⟩) K'.length c1):=hR.b.cell 1;have b2:wc.cell? ⟨B5,2,none⟩=some (.slice (some ⟨gl,0,none⟩) L'.length c2):=hR.b.cell 2;have y0:wc.cell? ⟨B2+1+1,0,none⟩=some (.slice none 0 0):=hb4.cell 0;have y1:wc.cell? ⟨B2+1+1,1,none⟩=some (.slice none 0 0):=hb4.cell 1;have y2:wc.cell? ⟨B2+1+1,2,none⟩=some (.slice none 0 0):=hb4.cell 2;have z0:=hb4.frozen 0;have z1:=hb4.frozen 1;have z2:=hb4.frozen 2;have kZ:=((hb4.set 0 (.slice (some ⟨ga,0,none⟩) D'.length c0)).set 1 (.slice (some ⟨gk,0,none⟩) K'.length c1)).set 2 (.slice (some ⟨gl,0,none⟩) L'.length c2);have hb3:B2≤B2+1+1:=by omega
   have hbZ:=((hbel.setCell (p:=⟨B2+1+1,0,none⟩) hb3 (.slice (some ⟨ga,0,none⟩) D'.length c0)).setCell (p:=⟨B2+1+1,1,none⟩) hb3 (.slice (some ⟨gk,0,none⟩) K'.length c1)).setCell (p:=⟨B2+1+1,2,none⟩) hb3 (.slice (some ⟨gl,0,none⟩) L'.length c2);simp only[List.setIfInBounds_toArray,List.set_cons_zero,List.set_cons_succ] at kZ;have hPl:=hR.out (a:= .slice (some ⟨ga,0,none⟩) D'.length c0) (b:= .slice (some ⟨gk,0,none⟩) K'.length c1) (d:= .slice (some ⟨gl,0,none⟩) L'.length c2) hb4 (Nat.le_trans hWl.dl (by decide)) (Nat.le_trans hWl.kl (by decide)) (Nat.le_trans hWl.ll (by omega));clear hR hPR hw;go_wp2_with fail;exact bodyPost_ret (results_cell_row (by rfl) _ _ (B2+1+1) 45 _ (0,0) _ (by rfl) kZ underlying45 (by rfl) (by kernel_rfl)) rfl ⟨_,_,rfl,hPl,hWl,hB2▸hbZ⟩
end
end Go.Proofs.YtfocdbjceedagaaGreatDoor
