/-
  Parts.
-/
import Derived.Test.YtfocdbjceedagaaGreatDoorYak
import Derived.Deep.Onto
import Derived.Sort.LotA
set_option linter.unusedVariables false
set_option linter.unusedSimpArgs false
namespace Go.Proofs.YtfocdbjceedagaaGreatDoor
open Tryz
section
open Go.RowKit Go.Shelf
attribute [local go_sem] Oper.semAt_some
attribute [local go_sem ↓] Go.wp_at_zero Go.wp_at_succ
abbrev wyZ:Array Value:= #[.int .i64 0,.slice none 0 0,.int .i64 0,.string ⟨#[]⟩,.string ⟨#[]⟩,.bool false,.int .i64 0,.int .i64 0]
def FW (n₀ k:Nat)(a:Int)(ob:Option Nat)(ys:List Wy)(i:Nat)(v:Value)(w:World):Prop :=
 match i with
 |0=>v= .int .i64 (k:Nat)
 |1=>v= .int .i64 (1+(k:Nat))
 |2=>∃B,v= .slice (some ⟨B,0,none⟩) 4 4∧n₀<B∧Blk w B #[.int .i64 0,.int .i64 0,.int .i64 1,.int .i64 (-1)] 3
 |3=>v= .pointer (some ⟨n₀,0,none⟩)
 |4=>∃x:Nat,v= .int .i64 x∧x<4
 |5=>∃B,∃x:Nat,v= .pointer (some ⟨B,x,none⟩)∧x<4∧n₀<B∧Blk w B #[.int .i64 0,.int .i64 0,.int .i64 1,.int .i64 (-1)] 3
 |6=>∃x,v= .int .i64 x
 |7=>v= .pointer (some ⟨n₀,0,none⟩)
 |8=>∃x,v= .int .i64 x∧0≤x∧x<20
 |9=>∃x,v= .int .i64 x
 |10=>v= .int .i64 a
 |11=>∃x y,v= .agg #[.int .i64 x,.int .i64 y]∧Small (x,y)
 |12=>∃L x y,v= .slice (some ⟨L,0,none⟩) 1 1∧n₀<L∧Blk w L #[.int .i64 x,.int .i64 y] 26∧Small (x,y)∧∀y∈ys,y.lv.ownBlock≠some L
 |13=>∃L x y lvl wt,v= .agg (wyC (1+(k:Nat)) (.slice (some ⟨L,0,none⟩) 1 1) lvl wt false)∧n₀<L∧Blk w L #[.int .i64 x,.int .i64 y] 26∧Small (x,y)∧∀y∈ys,y.lv.ownBlock≠some L
 |14=>∃B,v= .pointer (some ⟨B,0,none⟩)∧n₀<B∧Blk w B wyZ 149∧ob≠some B
 |_=>False
def GW (n₀:Nat)(w w':World):Prop:=∃row,w.grownBy w' row∧∀r,row=some r→r=n₀
theorem FW.kept {n₀ k:Nat}{a:Int}{ob:Option Nat}{ys:List Wy}{i:Nat}{v:Value}{w w':World}(h:FW n₀ k a ob ys i v w)(hg:GW n₀ w w'):FW n₀ k a ob ys i v w':=by
 obtain⟨row,hg,hr⟩:=hg;have hne:∀B,n₀<B→row≠some B:=fun B hB e=>by have:=hr B e;omega
 unfold FW at *;split at h
 ·exact h
 ·exact h
 ·obtain⟨B,h1,h2,h3⟩:=h;exact⟨B,h1,h2,h3.kept hg (hne B h2)⟩
 ·exact h
 ·exact h
 ·obtain⟨B,x,h1,h2,h3,h4⟩:=h;exact⟨B,x,h1,h2,h3,h4.kept hg (hne B h3)⟩
 ·exact h
 ·exact h
 ·exact h
 ·exact h
 ·exact h
 ·exact h
 ·obtain⟨B,x,y,h1,h2,h3,h4⟩:=h;exact⟨B,x,y,h1,h2,h3.kept hg (hne B h2),h4⟩
 ·obtain⟨B,x,y,l,t,h1,h2,h3,h4⟩:=h;exact⟨B,x,y,l,t,h1,h2,h3.kept hg (hne B h2),h4⟩
 ·obtain⟨B,h1,h2,h3,h4⟩:=h;exact⟨B,h1,h2,h3.kept hg (hne B h2),h4⟩
 ·exact h
theorem GW.refl (n₀:Nat)(w:World):GW n₀ w w:=⟨none,a1o (zR _ _),by simp⟩
theorem GW.alloc (n₀:Nat)(w:World)(o:Obj):GW n₀ w (w.alloc o):=⟨none,World.grownBy_alloc w o none,by simp⟩
def FX (n₀ B:Nat)(lv:Value)(i:Nat)(v:Value)(w:World):Prop :=
 match i with
 |0=>v= .pointer (some ⟨B,1,none⟩)
 |1=>v=lv
 |2=>v= .pointer (some ⟨n₀,0,none⟩)
 |3=>∃x,v= .int .i64 x∧0≤x∧x<2
 |4=>∃x,v= .int .i64 x∧0≤x∧x≤10
 |5=>∃x,v= .int .i64 x∧0≤x∧x≤15
 |6=>v= .pointer (some ⟨n₀,0,none⟩)
 |7=>∃x,v= .int .i64 x∧0≤x∧x<2
 |8=>∃x,v= .int .i64 x∧0≤x∧x≤10
 |9=>∃x,v= .int .i64 x∧0≤x∧x≤15
 |10=>∃x y,v= .agg #[.int .i64 x,.int .i64 y]∧Small (x,y)
 |11=>∃L x y,v= .slice (some ⟨L,0,none⟩) 1 1∧n₀<L∧Blk w L #[.int .i64 x,.int .i64 y] 26∧Small (x,y)
 |_=>False
theorem FX.kept {n₀ B:Nat}{lv:Value}{i:Nat}{v:Value}{w w':World}(h:FX n₀ B lv i v w)(hg:GW n₀ w w'):FX n₀ B lv i v w':=by
 obtain⟨row,hg,hr⟩:=hg;unfold FX at *;split at h
 all_goals first|exact h|(obtain⟨L,x,y,h1,h2,h3,h4⟩:=h;exact⟨L,x,y,h1,h2,h3.kept hg (fun e=>by have:=hr L e;omega),h4⟩)
def FY (n₀ B:Nat)(lv:Value)(b:Int)(i:Nat)(v:Value)(w:World):Prop :=
 match i with
 |0=>v= .pointer (some ⟨B,1,none⟩)
 |1=>v=lv
 |2=>v= .int .i64 b
 |3=>∃x y,v= .agg #[.int .i64 x,.int .i64 y]∧Small (x,y)
 |4=>∃L x y,v= .slice (some ⟨L,0,none⟩) 1 1∧n₀<L∧Blk w L #[.int .i64 x,.int .i64 y] 26∧Small (x,y)
 |_=>False
theorem FY.kept {n₀ B:Nat}{lv:Value}{b:Int}{i:Nat}{v:Value}{w w':World}(h:FY n₀ B lv b i v w)(hg:GW n₀ w w'):FY n₀ B lv b i v w':=by
 obtain⟨row,hg,hr⟩:=hg;unfold FY at *;split at h
 all_goals first|exact h|(obtain⟨L,x,y,h1,h2,h3,h4⟩:=h;exact⟨L,x,y,h1,h2,h3.kept hg (fun e=>by have:=hr L e;omega),h4⟩)
theorem MP.lt {n₀ K:Nat}{w W:World}{sv v:Value}{xs:List Int}{ys:List Wy}{B:Nat}{id lvl wt:Int}{lv:Value}{stb:Bool}{ps:List a0o}(h:MP n₀ w sv xs K v ys B id lv lvl wt stb ps W):n₀<W.heap.size:=h.mr.lt
end
section
open Go.RowKit Go.Shelf Go.Maps
attribute [local go_sem] Oper.semAt_some
attribute [local go_sem ↓] Go.wp_at_zero Go.wp_at_succ
theorem Wys.at_ {n₀:Nat}{w:World}{a:Option Addr}{ws:List Wy}{cap:Nat}(h:Wys n₀ w (.slice a ws.length cap) ws)(h0:0<ws.length):∃b off,a=some ⟨b,off,none⟩∧∀X,Below n₀ w X→∀j,(h:j<ws.length)→WyAt n₀ X b (off+j*8) ws[j]:=by
 obtain⟨a',cap',e,hp⟩:=h;simp only[Value.slice.injEq,true_and] at e;obtain⟨rfl,rfl⟩:=e;obtain⟨b,off,rfl,hb,-⟩:=hp 0 h0;refine⟨b,off,rfl,fun X hX j hj=> ?_⟩;obtain⟨b',off',e,hb',y0⟩:=hp j hj;simp only[Option.some.injEq,Addr.mk.injEq,and_true] at e;obtain⟨rfl,rfl⟩:=e;exact y0.below hX hb
end
section
open Go.RowKit Go.Shelf Go.Maps Go.Deep
attribute [local go_sem] Oper.semAt_some
attribute [local go_sem ↓] Go.wp_at_zero Go.wp_at_succ
def WysN (W:World)(xv:Value)(l:List Wy):Prop:=(xv= .slice none 0 0∧l=[])∨(l≠[]∧Wys W.heap.size W xv l)
theorem WysN.below {W W':World}{xv:Value}{l:List Wy}(h:WysN W xv l)(hb:Below W.heap.size W W'):WysN W' xv l:=by
 rcases h with ⟨rfl,rfl⟩|⟨h1,h⟩
 ·exact .inl ⟨rfl,rfl⟩
 ·exact .inr ⟨h1,h.up hb hb.size⟩
theorem Wys.pts {n₀:Nat}{W:World}{sv:Value}{l:List Wy}(h:Wys n₀ W sv l):∀y∈l,Pts n₀ W y.lv y.line:=fun y hy=>by
 obtain⟨k,hk,rfl⟩:=List.getElem_of_mem hy;have h':=h;obtain⟨a,cap,rfl,-⟩:=h';obtain⟨b,off,rfl,hp⟩:=h.at_ (by omega);exact (hp W (zR _ _) k hk).pts
end
section
open Go.RowKit Go.Shelf
attribute [local go_sem] Oper.semAt_some
def c6t:Array Value:= #[.int .i64 1,.int .i64 3,.int .i64 9,.int .i64 25,.int .i64 17,.int .i64 11,.int .i64 27,.int .i64 19,.int .i64 10,.int .i64 26,.int .i64 5,.int .i64 7,.int .i64 13,.int .i64 29,.int .i64 21,.int .i64 15,.int .i64 31,.int .i64 23,.int .i64 14,.int .i64 30,.int .i64 37,.int .i64 39,.int .i64 58,.int .i64 45,.int .i64 61,.int .i64 53]
end
section
open Go.RowKit Go.Shelf
attribute [local go_sem] Oper.semAt_some
@[local simp] theorem l0:c6t[0]? =some (.int .i64 1):=rfl
@[local simp] theorem l1:c6t[1]? =some (.int .i64 3):=rfl
@[local simp] theorem l2:c6t[2]? =some (.int .i64 9):=rfl
@[local simp] theorem l3:c6t[3]? =some (.int .i64 25):=rfl
@[local simp] theorem l4:c6t[4]? =some (.int .i64 17):=rfl
@[local simp] theorem l5:c6t[5]? =some (.int .i64 11):=rfl
@[local simp] theorem l6:c6t[6]? =some (.int .i64 27):=rfl
@[local simp] theorem l7:c6t[7]? =some (.int .i64 19):=rfl
@[local simp] theorem l8:c6t[8]? =some (.int .i64 10):=rfl
@[local simp] theorem l9:c6t[9]? =some (.int .i64 26):=rfl
attribute [local go_sem] l0 l1 l2 l3 l4 l5 l6 l7 l8 l9
end
section
open Go.RowKit Go.Shelf
theorem a0a {b:Act}{k:Nat}{v:Value}(h:b.eval (.tmp k)=v):b.tmps[k]?.getD undef=v:=by
 rw[←h];simp[Act.eval]
theorem a1e {b:Act}{k:Nat}{v:Value}(h:b.eval (.tmp k)=v)(hk:k<b.tmps.size):b.tmps[k]? =some v:=by
 have h2:=a0a h;rw[Array.getElem?_eq_getElem hk] at h2 ⊢;exact congrArg some h2
theorem b8y (W:World):W.grownBy W.drew none:=⟨rfl,rfl,rfl,yR _,fun _ _ _=>rfl⟩
def b6o:List Dt→Dt→List Dt
 |[],x=>[x]
 |d::l,x=>if ltS (d.x,d.y) (x.x,x.y) then d::b6o l x else if (d.x,d.y)=(x.x,x.y) then (if x.i<d.i then ⟨d.x,d.y,d.k,x.i⟩ else d)::l else x::d::l
def c5a:List a0o→a0o→List a0o
 |[],p=>[p]
 |q::ks,p=>if ltS q p then q::c5a ks p else if q=p then q::ks else p::q::ks
theorem a4q (p:a0o):ltS p p=false:=by simp[ltS]
theorem b1e {p q r:a0o}(h1:ltS p q=true)(h2:ltS q r=true):ltS p r=true:=by simp[ltS] at *;omega
theorem b8z {p q:a0o}(h1:ltS p q=false)(h2:¬p=q):ltS q p=true:=by
 obtain⟨a,b⟩:=p;obtain⟨c,d⟩:=q;simp[ltS] at *;omega
theorem b4b (p q:a0o):∀ks:List a0o,q∈c5a ks p↔q=p∨q∈ks
 |[]=>by simp[c5a]
 |a::ks=>by
  unfold c5a;split
  ·simp only[List.mem_cons,b4b p q ks]
   constructor
   ·rintro (h|h|h) <;> simp[h]
   ·rintro (h|h|h) <;> simp[h]
  ·split
   ·rename_i h;subst h;simp
   ·simp
theorem b1f (p:a0o):∀ {ks:List a0o},ks.Pairwise (fun a b=>ltS a b=true)→(c5a ks p).Pairwise (fun a b=>ltS a b=true)
 |[],_=>by simp[c5a]
 |a::ks,h=>by
  rw[List.pairwise_cons] at h;unfold c5a;split
  ·rename_i h1
   rw[List.pairwise_cons];refine⟨fun b hb=> ?_,b1f p h.2⟩;rcases (b4b p b ks).1 hb with rfl|hb
   ·exact h1
   ·exact h.1 b hb
  ·rename_i h1
   split
   ·exact List.pairwise_cons.2 h
   ·rename_i h2
    have h3:=b8z (by simpa using h1) h2;rw[List.pairwise_cons];refine⟨fun b hb=> ?_,List.pairwise_cons.2 h⟩;rcases List.mem_cons.1 hb with rfl|hb
    ·exact h3
    ·exact b1e h3 (h.1 b hb)
def mkD (k:Int)(f:a0o→Int)(p:a0o):Dt:=⟨p.1,p.2,k,f p⟩
theorem c0s (k:Int)(f f':a0o→Int)(p:a0o)(id:Int):∀(ks:List a0o),ks.Pairwise (fun a b=>ltS a b=true)→(∀q,q≠p→f' q=f q)→(p∈ks→f' p=if id<f p then id else f p)→(p∉ks→f' p=id) →
 b6o (ks.map (mkD k f)) ⟨p.1,p.2,k,id⟩=(c5a ks p).map (mkD k f')
 |[],_,_,_,h3=>by
  simp only[List.map_nil,b6o,c5a,List.map_cons];unfold mkD;rw[h3 (by simp)]
 |a::ks,hs,h1,h2,h3=>by
  rw[List.pairwise_cons] at hs;show (if ltS a p=true then mkD k f a::b6o (ks.map (mkD k f)) ⟨p.1,p.2,k,id⟩ else if a=p then (if id<f a then ⟨a.1,a.2,k,id⟩ else mkD k f a)::ks.map (mkD k f) else ⟨p.1,p.2,k,id⟩::mkD k f a::ks.map (mkD k f))=(if ltS a p=true then a::c5a ks p else if a=p then a::ks else p::a::ks).map (mkD k f');by_cases hlt:ltS a p=true
  ·rw[if_pos hlt,if_pos hlt,List.map_cons]
   have hne:a≠p:=fun e=>by subst e;rw[a4q] at hlt;cases hlt
   rw[c0s k f f' p id ks hs.2 h1 (fun h=>h2 (List.mem_cons_of_mem _ h)) (fun h=>h3 (fun e=>by rcases List.mem_cons.1 e with e|e;exact hne e.symm;exact h e))];congr 1;unfold mkD;rw[h1 a hne]
  ·rw[if_neg hlt,if_neg hlt]
   by_cases he:a=p
   ·subst he
    rw[if_pos rfl,if_pos rfl,List.map_cons];have hrest:ks.map (mkD k f)=ks.map (mkD k f'):=List.map_congr_left fun q hq=>by
     have hne:q≠a:=fun e=>by have:=hs.1 q hq;rw[e,a4q] at this;cases this
     unfold mkD;rw[h1 q hne]
    rw[hrest];congr 1;have h4:=h2 List.mem_cons_self;unfold mkD;split
    ·rename_i hid;rw[if_pos hid] at h4;rw[h4]
    ·rename_i hid;rw[if_neg hid] at h4;rw[h4]
   ·have h5:=b8z (by simpa using hlt) he
    rw[if_neg he,if_neg he,List.map_cons,List.map_cons];have hni:p∉a::ks:=fun e=>by
     rcases List.mem_cons.1 e with e|e
     ·exact he e.symm
     ·have:=b1e h5 (hs.1 p e);rw[a4q] at this;cases this
    have hne:∀q∈a::ks,q≠p:=fun q hq e=>hni (e▸hq)
    have hrest:ks.map (mkD k f)=ks.map (mkD k f'):=List.map_congr_left fun q hq=>by
     unfold mkD;rw[h1 q (hne q (List.mem_cons_of_mem _ hq))]
    rw[hrest];unfold mkD;rw[h3 hni,h1 a (hne a List.mem_cons_self)]
theorem b6p {en:List (a0o×Int)}(hn:(en.map (·.1)).Nodup):(a2r en).Pairwise (fun a b=>ltS a b=true):=by
 have h1:(a2r en).Pairwise (fun a b=>leS a b=true):=List.pairwise_mergeSort b5n b5o _;have h2:(a2r en).Nodup:=(List.mergeSort_perm _ _).nodup_iff.2 hn;rw[List.nodup_iff_pairwise_ne] at h2;refine (h1.and h2).imp ?_;rintro a b⟨ha,hb⟩;unfold leS at ha;exact b8z (by simpa using ha) (fun e=>hb e.symm)
theorem b1g {en:List (a0o×Int)}{p:a0o}:p∈a2r en↔(a5m en p).isSome=true:=by
 rw[←a7p,a2i];exact (List.mergeSort_perm _ _).mem_iff
theorem c2i (k:Int)(s:Sh)(en:List (a0o×Int))(c:a0o×Int)(hn:(en.map (·.1)).Nodup) :
 a1u k (a9a s en c)=if onS s c.1.1 c.1.2 then b6o (a1u k en) ⟨c.1.1,c.1.2,k,c.2⟩ else a1u k en:=by
 obtain⟨p,id⟩:=c
 cases hon:onS s p.1 p.2 with
 |false =>
  rw[if_neg (by simp)];unfold a9a c6q;simp[hon]
 |true =>
  rw[if_pos rfl];have hid:∀q,a5m (a9a s en (p,id)) q=if q=p then some (c7x id (a5m en p)) else a5m en q:=fun q=>by
   unfold a9a;rw[b1a];simp[hon]
  have hks:a2r (a9a s en (p,id))=c5a (a2r en) p:=by
   have hs:=b1f p (b6p hn);refine (b2p (b2o (a8l s en (p,id) hn) ?_ (fun q=> ?_)) ?_).symm
   ·rw[List.nodup_iff_pairwise_ne]
    exact hs.imp fun {a b} h e=>by subst e;rw[a4q] at h;cases h
   ·rw[b4b,b1g,←a2i,a7p,hid]
    split
    ·rename_i h;simp[h]
    ·rename_i h;simp[h]
   ·refine hs.imp fun {a b} h=> ?_
    unfold leS
    cases hb:ltS b a with
    |false=>rfl
    |true=>have:=b1e h hb;rw[a4q] at this;cases this
  unfold a1u;rw[hks];refine (c0s k (fun q=>(a5m en q).getD 0) (fun q=>(a5m (a9a s en (p,id)) q).getD 0) p id (a2r en) (b6p hn) (fun q hq=> ?_) (fun h=> ?_) (fun h=> ?_)).symm
  ·simp only[hid,if_neg hq]
  ·simp only[hid,if_true,Option.getD_some]
   rw[b1g] at h
   cases ho:a5m en p with
   |none=>rw[ho] at h;cases h
   |some o=>rfl
  ·simp only[hid,if_true,Option.getD_some]
   rw[b1g] at h
   cases ho:a5m en p with
   |none=>rfl
   |some o=>rw[ho] at h;exact absurd rfl h
def d0s (k:Int)(s:Sh)(cs:List (a0o×Int))(l:List Dt):List Dt:=cs.foldl (fun l c=>if onS s c.1.1 c.1.2 then b6o l ⟨c.1.1,c.1.2,k,c.2⟩ else l) l
theorem b2x (k:Int)(s:Sh):∀(cs:List (a0o×Int))(en:List (a0o×Int)),(en.map (·.1)).Nodup→d0s k s cs (a1u k en)=a1u k (cs.foldl (a9a s) en)
 |[],_,_=>rfl
 |c::cs,en,hn=>by
  unfold d0s;rw[List.foldl_cons,List.foldl_cons,←c2i k s en c hn];exact b2x k s cs _ (a8l s en c hn)
end
end Go.Proofs.YtfocdbjceedagaaGreatDoor
namespace Go.Proofs.YtfocdbjceedagaaGreatDoor
open Go.RowKit Go.Shelf
attribute [local go_sem] Oper.semAt_some
attribute [local go_sem ↓] Go.wp_at_zero Go.wp_at_succ
structure Near5 (p:a0o):Prop where
 x0 : -100000≤p.1
 x1:p.1≤100000
 y0 : -100000≤p.2
 y1:p.2≤100000
structure LN (w:World)(B2 B3 base:Nat)(ax ay bx by_:Int)(lv:Value)(l:List a0o)(W:World):Prop where
 k2:Blk W B2 #[.int .i64 ax,.int .i64 ay] 26
 k3:Blk W B3 #[.int .i64 bx,.int .i64 by_] 26
 l2:B2<base
 l3:B3<base
 lw:w.heap.size≤base
 row:W.ownsRow base 26 2 lv l.length (l.flatMap b2b)
 below:Below w.heap.size w W
 lb:base≤W.heap.size
section
variable {w W W':World}{B2 B3 base:Nat}{ax ay bx by_:Int}{lv:Value}{l:List a0o}
theorem LN.grown (h:LN w B2 B3 base ax ay bx by_ lv l W)(hg:W.grownBy W' none):LN w B2 B3 base ax ay bx by_ lv l W' :=
 ⟨h.k2.kept hg (by simp),h.k3.kept hg (by simp),h.l2,h.l3,h.lw,by
  refine h.row.kept hg ?_;rcases h.row.2 with ⟨rfl,_⟩|⟨g,cap,cur,rfl,_⟩
  ·exact .inl rfl
  ·exact .inr (fun e=>by cases e),h.below.grown hg h.below.size (fun k e=>by cases e),Nat.le_trans h.lb hg.size⟩
theorem LN.alloc (h:LN w B2 B3 base ax ay bx by_ lv l W)(o:Obj):LN w B2 B3 base ax ay bx by_ lv l (W.alloc o):=h.grown (World.grownBy_alloc W o none)
theorem LN.b0 (h:LN w B2 B3 base ax ay bx by_ lv l W):W.cell? ⟨B3,0,none⟩=some (.int .i64 bx):=h.k3.cell 0
theorem LN.b1 (h:LN w B2 B3 base ax ay bx by_ lv l W):W.cell? ⟨B3,1,none⟩=some (.int .i64 by_):=h.k3.cell 1
end
def FLine (B2 B3:Nat)(u6:Value)(t N ax ay bx by_ qx qy:Int)(i:Nat)(v:Value)(w:World):Prop :=
 match i with
 |0=>v=u6
 |1=>v= .pointer (some ⟨B2,0,none⟩)
 |2=>v= .int .i64 ax
 |3=>v= .int .i64 t
 |4=>v= .int .i64 (2*t)
 |5=>v= .pointer (some ⟨B3,0,none⟩)
 |6=>v= .int .i64 bx
 |7=>v= .pointer (some ⟨B2,0,none⟩)
 |8=>v= .int .i64 ax
 |9=>v= .int .i64 (bx-ax)
 |10=>v= .int .i64 ((2*t)*(bx-ax))
 |11=>v= .int .i64 N
 |12=>v= .int .i64 (((2*t)*(bx-ax))+N)
 |13=>v= .int .i64 N
 |14=>v= .int .i64 (2*N)
 |15=>v= .int .i64 qx
 |16=>v= .int .i64 (ax+qx)
 |17=>v= .pointer (some ⟨B2,1,none⟩)
 |18=>v= .int .i64 ay
 |19=>v= .int .i64 t
 |20=>v= .int .i64 (2*t)
 |21=>v= .pointer (some ⟨B3,1,none⟩)
 |22=>v= .int .i64 by_
 |23=>v= .pointer (some ⟨B2,1,none⟩)
 |24=>v= .int .i64 ay
 |25=>v= .int .i64 (by_-ay)
 |26=>v= .int .i64 ((2*t)*(by_-ay))
 |27=>v= .int .i64 N
 |28=>v= .int .i64 (((2*t)*(by_-ay))+N)
 |29=>v= .int .i64 N
 |30=>v= .int .i64 (2*N)
 |31=>v= .int .i64 qy
 |32=>v= .int .i64 (ay+qy)
 |33=>v= .agg #[.int .i64 (ax+qx),.int .i64 (ay+qy)]
 |34=>∃L,v= .slice (some ⟨L,0,none⟩) 1 1∧Blk w L #[.int .i64 (ax+qx),.int .i64 (ay+qy)] 26
 |_=>False
theorem FLine.kept {B2 B3:Nat}{u6:Value}{t N ax ay bx by_ qx qy:Int}{i:Nat}{v:Value}{w w':World}(h:FLine B2 B3 u6 t N ax ay bx by_ qx qy i v w)(hg:w.grownBy w' none):FLine B2 B3 u6 t N ax ay bx by_ qx qy i v w':=by
 unfold FLine at *;split at h
 all_goals first|exact h|(obtain⟨L,h1,h2⟩:=h;exact⟨L,h1,h2.kept hg (by simp)⟩)
end Go.Proofs.YtfocdbjceedagaaGreatDoor
namespace Go.Proofs.YtfocdbjceedagaaGreatDoor
open Go.RowKit Go.Shelf
attribute [local go_sem] Oper.semAt_some
attribute [local go_sem ↓] Go.wp_at_zero Go.wp_at_succ
section
variable {w W W':World}{B2 B3 base:Nat}{ax ay bx by_:Int}{lv:Value}{l:List a0o}
end
end Go.Proofs.YtfocdbjceedagaaGreatDoor
namespace Go.Proofs.YtfocdbjceedagaaGreatDoor
open Tryz
section
open Go Go.RowKit Go.Shelf Go.Lib Go.Sort
/-! ### the order of places -/
theorem c9y (a b:Pc):ltOf a8d a b=true↔(b.wt<a.wt∨(a.wt=b.wt∧a.id<b.id)):=by
 unfold ltOf a8d compareInt;simp only[decide_eq_true_eq];split <;> (try split at *) <;> (try split at *) <;> (try split at *) <;> omega
theorem c5b (a b:Pc):ltOf a8d a b=false↔¬(b.wt<a.wt∨(a.wt=b.wt∧a.id<b.id)):=by
 rw[←c9y]
 cases ltOf a8d a b <;> simp
theorem d4l:SWO (ltOf a8d):=by
 refine⟨fun x=> ?_,fun x y z h1 h2=> ?_,fun x y z h1 h2=> ?_⟩
 ·rw[c5b];omega
 ·rw[c9y] at *;omega
 ·rw[c5b] at *;omega
theorem b1h {α:Type}(d:Array α)(n:Nat)(h:n=d.size):(d.extract 0 n)=d:=by
 subst h;simp
theorem a1g (l:List Pc):(a0t l).Perm l:=by
 have:=(insertionSort_holds (lt:=ltOf a8d) d4l l.toArray 0 l.length (Nat.zero_le _) (by simp)).1;obtain⟨h1,-,h3⟩:=this;rw[b1h _ _ (by rw[h1];simp),b1h _ _ (by simp)] at h3;exact h3
theorem a9d (l:List Pc):(a0t l).Pairwise (fun a b=>ltOf a8d b a=false):=by
 obtain⟨⟨h1,-,-⟩,h2⟩:=insertionSort_holds (lt:=ltOf a8d) d4l l.toArray 0 l.length (Nat.zero_le _) (by simp);unfold a0t;rw[List.pairwise_iff_getElem];intro i j hi hj hij;have:=h2 i j (Nat.zero_le _) hij (by simpa [h1] using hj);rw[getElem!_pos _ i (by simpa using hi),getElem!_pos _ j (by simpa using hj)] at this;simpa using this
def a6v (l:List Pc):Prop:=(l.map Pc.id).Nodup
theorem PlsOk.nodup {l:List Pc}(h:∀(k:Nat) p,l[k]? =some p→p.id=61+(k:Int)):a6v l:=by
 unfold a6v;rw[List.nodup_iff_pairwise_ne,List.pairwise_iff_getElem];intro i j hi hj hij;rw[List.length_map] at hi hj;rw[List.getElem_map,List.getElem_map,h i l[i] (List.getElem?_eq_getElem hi),h j l[j] (List.getElem?_eq_getElem hj)];omega
end
section
open Go.RowKit Go.Shelf Go.Deep
attribute [local go_sem] Oper.semAt_some
attribute [local go_sem ↓] Go.wp_at_zero Go.wp_at_succ
structure Lead (l:List Dt)(x:Dt)(k:Nat):Prop where
 le:k≤l.length
 lt:∀j,(h:j<k)→ltS ((l[j]'(Nat.lt_of_lt_of_le h le)).x,(l[j]'(Nat.lt_of_lt_of_le h le)).y) (x.x,x.y)=true
theorem Lead.zero (l:List Dt)(x:Dt):Lead l x 0:=⟨Nat.zero_le _,fun j h=>absurd h (by omega)⟩
end
section
open Go.RowKit Go.Shelf
theorem b2y {k:Int}{en:List (a0o×Int)}{d:Dt}(h:d∈a1u k en):(d.x,d.y)∈en.map (·.1):=by
 unfold a1u at h;obtain⟨p,hp,rfl⟩:=List.mem_map.1 h;exact (List.mergeSort_perm _ _).mem_iff.1 hp
def Ent (s:Sh)(en:List (a0o×Int)):Prop:=∃cs:List (a0o×Int),en=cs.foldl (a9a s) []
theorem Ent.nil (s:Sh):Ent s []:=⟨[],rfl⟩
theorem Ent.put {s:Sh}{en:List (a0o×Int)}(h:Ent s en)(c:a0o×Int):Ent s (a9a s en c):=by
 obtain⟨cs,rfl⟩:=h;exact⟨cs++[c],by rw[List.foldl_append];rfl⟩
theorem Ent.nodup {s:Sh}{en:List (a0o×Int)}(h:Ent s en):(en.map (·.1)).Nodup:=by
 obtain⟨cs,rfl⟩:=h;exact a8m s cs [] (by simp)
theorem Ent.len {s:Sh}{en:List (a0o×Int)}(h:Ent s en)(hs:OkS s):(a1u 2 en).length≤6480:=by
 rw[a4f];refine b6i hs h.nodup ?_;obtain⟨cs,rfl⟩:=h;exact b3y s cs [] (by simp)
structure RO (w:World)(s:Sh)(B2 base:Nat)(v:Value)(en:List (a0o×Int))(W:World):Prop where
 sheet:Blk W B2 #[.int .i64 s.ax,.int .i64 s.ay,.int .i64 s.st,.int .i64 s.w,.int .i64 s.h,.int .i64 s.g] 28
 far:B2<base
 row:W.ownsRow base 54 4 v (a1u 2 en).length ((a1u 2 en).flatMap a7l)
 wb:w.heap.size≤base
 below:Below w.heap.size w W
 lb:base≤W.heap.size
 ent:Ent s en
section
variable {w W W':World}{s:Sh}{B2 base Bw:Nat}{v v':Value}{en en':List (a0o×Int)}{c:Array Value}{lv:Value}{l:List a0o}
theorem RO.grown (h:RO w s B2 base v en W)(hg:W.grownBy W' none):RO w s B2 base v en W' :=
 ⟨h.sheet.kept hg (by simp),h.far,a3b h.row hg (by simp),h.wb,h.below.grown hg h.below.size (fun k e=>by cases e),Nat.le_trans h.lb hg.size,h.ent⟩
theorem RO.alloc (h:RO w s B2 base v en W)(o:Obj):RO w s B2 base v en (W.alloc o):=h.grown (World.grownBy_alloc W o none)
theorem RO.put (h:RO w s B2 base v en W)(hg:W.grownBy W' v.ownBlock)(hrow:W'.ownsRow base 54 4 v' (a1u 2 en').length ((a1u 2 en').flatMap a7l))(he:Ent s en'):RO w s B2 base v' en' W' :=
 ⟨h.sheet.kept hg (fun e=>by have:=(h.row.lt _ e).1;have:=h.far;omega),h.far,hrow,h.wb,h.below.grown hg h.below.size (fun k e=>by have:=(h.row.lt _ e).1;have:=h.wb;omega),Nat.le_trans h.lb hg.size,he⟩
structure RB (w:World)(s:Sh)(B2 base Bw:Nat)(c:Array Value)(v:Value)(en:List (a0o×Int))(W:World):Prop where
 out:RO w s B2 base v en W
 box:Blk W Bw c 149
theorem RB.grown (h:RB w s B2 base Bw c v en W)(hg:W.grownBy W' none):RB w s B2 base Bw c v en W':=⟨h.out.grown hg,h.box.kept hg (by simp)⟩
theorem RB.put (h:RB w s B2 base Bw c v en W)(hg:W.grownBy W' v.ownBlock)(hrow:W'.ownsRow base 54 4 v' (a1u 2 en').length ((a1u 2 en').flatMap a7l))(he:Ent s en'):RB w s B2 base Bw c v' en' W' :=
 ⟨h.out.put hg hrow he,h.box.kept hg (b1d h.out.row h.box (by decide))⟩
structure RL (w:World)(s:Sh)(B2 base Bw:Nat)(c:Array Value)(lv:Value)(l:List a0o)(v:Value)(en:List (a0o×Int))(W:World):Prop where
 way:RB w s B2 base Bw c v en W
 line:W.ownsRow base 26 2 lv l.length (l.flatMap b2b)
theorem RL.grown (h:RL w s B2 base Bw c lv l v en W)(hg:W.grownBy W' none):RL w s B2 base Bw c lv l v en W':=⟨h.way.grown hg,a3b h.line hg (by simp)⟩
theorem RL.put (h:RL w s B2 base Bw c lv l v en W)(hg:W.grownBy W' v.ownBlock)(hrow:W'.ownsRow base 54 4 v' (a1u 2 en').length ((a1u 2 en').flatMap a7l))(he:Ent s en'):RL w s B2 base Bw c lv l v' en' W' :=
 ⟨h.way.put hg hrow he,a3b h.line hg (b1c h.line h.way.out.row (by decide))⟩
end
def a6m (i j:Int)(r:Nat→Bool):Nat→List a0o
 |0=>[]
 |k+1=>a6m i j r k++(if r k then [b3r i j k] else [])
def a7q (i j:Int)(k:Nat)(d:Nat→Bool)(l:List a0o):Nat→List a0o
 |0=>l
 |n+1=>a7q i j k d l n++(if d n then [a9v i j k n] else [])
def a3z (i j:Int)(D:Nat→Nat→Bool)(l:List a0o):Nat→List a0o
 |0=>l
 |k+1=>a7q i j k (D k) (a3z i j D l k) 6
def a2j (i j:Int)(r:Nat→Bool)(D:Nat→Nat→Bool)(n:Nat):List a0o:=a3z i j D (a6m i j r 9) n
def c6u (id:Int)(en:List (a0o×Int))(p:a0o):List (a0o×Int):=b3o en p id
theorem c0t (i j id:Int)(r:Nat→Bool):∀k,c4o i j id r k=(a6m i j r k).foldl (c6u id) []
 |0=>rfl
 |k+1=>by
  rw[c4o,a6m,List.foldl_append,←c0t i j id r k];unfold upE;split <;> rfl
theorem c0u (i j id:Int)(k:Nat)(d:Nat→Bool)(l:List a0o):∀n,c6r i j id k d (l.foldl (c6u id) []) n=(a7q i j k d l n).foldl (c6u id) []
 |0=>rfl
 |n+1=>by
  rw[c6r,a7q,List.foldl_append,←c0u i j id k d l n];unfold upE;split <;> rfl
theorem b6q (i j id:Int)(D:Nat→Nat→Bool)(l:List a0o):∀n,b0s i j id D (l.foldl (c6u id) []) n=(a3z i j D l n).foldl (c6u id) []
 |0=>rfl
 |n+1=>by rw[b0s,a3z,b6q i j id D l n,c0u]
theorem a4r (i j id:Int)(r:Nat→Bool)(D:Nat→Nat→Bool)(n:Nat):a5i i j id r D n=(a2j i j r D n).foldl (c6u id) []:=by
 unfold a5i a2j;rw[c0t,b6q]
theorem a8n (i j:Int)(r:Nat→Bool):∀k,(a6m i j r k).length≤k
 |0=>yR _
 |k+1=>by
  have:=a8n i j r k;rw[a6m,List.length_append];split <;> simp <;> omega
theorem b2z (i j:Int)(k:Nat)(d:Nat→Bool)(l:List a0o):∀n,(a7q i j k d l n).length≤l.length+n
 |0=>yR _
 |n+1=>by
  have:=b2z i j k d l n;rw[a7q,List.length_append];split <;> simp <;> omega
theorem a6w (i j:Int)(D:Nat→Nat→Bool)(l:List a0o):∀n,(a3z i j D l n).length≤l.length+6*n
 |0=>yR _
 |n+1=>by
  have h1:=a6w i j D l n;have h2:=b2z i j n (D n) (a3z i j D l n) 6;rw[a3z];omega
def c2j (id:Int)(en:List (a0o×Int)):Prop:=∀e∈en,e.2=id
theorem c2k {id:Int}{en:List (a0o×Int)}(h:c2j id en)(p:a0o):c2j id (b3o en p id):=by
 intro e he;unfold b3o at he;split at he
 ·obtain⟨e',he',rfl⟩:=List.mem_map.1 he
  split
  ·rfl
  ·exact h e' he'
 ·rcases List.mem_append.1 he with he|he
  ·exact h e he
  ·rw[List.mem_singleton.1 he]
theorem c5c {id:Int}{en:List (a0o×Int)}(h:c2j id en){p:a0o}(hk:a9n en p=true):b3o en p id=en:=by
 unfold b3o;rw[if_pos hk];conv=>rhs;rw[←List.map_id en]
 refine List.map_congr_left fun e he=> ?_
 split
 ·rename_i hp
  have h1:=h e he;obtain⟨a,b⟩:=e;simp only[beq_iff_eq] at hp h1;rw[←hp,←h1];rfl
 ·rfl
theorem c7z {id:Int}{en:List (a0o×Int)}(h:c2j id en){p:a0o}(hk:a9n en p=true):(a5m en p).getD 0=id:=by
 rw[a7p] at hk;obtain⟨x,hx⟩:=Option.isSome_iff_exists.1 hk;rw[hx];unfold a5m at hx;obtain⟨e,he,rfl⟩:=Option.map_eq_some_iff.1 hx;exact h e (List.mem_of_find?_eq_some he)
theorem c5d {s:Sh}{id:Int}{en:List (a0o×Int)}(h:c2j id en){p:a0o}(hon:onS s p.1 p.2=true):b3o en p id=a9a s en (p,id):=by
 unfold a9a c6q;simp only[hon,Bool.true_and]
 cases hk:a9n en p with
 |false=>simp
 |true =>
  rw[c7z h hk,c5c h hk];simp
theorem b6r {s:Sh}{id:Int}:∀(ps:List a0o)(en:List (a0o×Int)),c2j id en→(∀p∈ps,onS s p.1 p.2=true)→ps.foldl (c6u id) en=(ps.map fun p=>(p,id)).foldl (a9a s) en
 |[],_,_,_=>rfl
 |p::ps,en,h,hon=>by
  rw[List.foldl_cons,List.map_cons,List.foldl_cons,←c5d h (hon p List.mem_cons_self)];exact b6r ps _ (c2k h p) (fun q hq=>hon q (List.mem_cons_of_mem _ hq))
theorem a5u {id:Int}(q:a0o):∀(ps:List a0o)(en:List (a0o×Int)),q∈(ps.foldl (c6u id) en).map (·.1)↔q∈ps∨q∈en.map (·.1)
 |[],en=>by simp
 |p::ps,en=>by
  rw[List.foldl_cons,a5u q ps];unfold c6u;rw[←a2i,←a2i,c0d];simp only[List.mem_cons,Bool.or_eq_true,decide_eq_true_eq];constructor
  ·rintro (h|h|h) <;> simp[h]
  ·rintro ((h|h)|h) <;> simp[h]
def c5e (id:Int)(ps:List a0o):List Dt:=ps.foldl (fun l p=>b6o l ⟨p.1,p.2,3,id⟩) []
theorem b1i {s:Sh}{id:Int}{ps:List a0o}(hon:∀p∈ps,onS s p.1 p.2=true):c5e id ps=a1u 3 (ps.foldl (c6u id) []):=by
 rw[b6r ps [] (by intro e he;cases he) hon,←b2x 3 s _ [] (by simp)];unfold c5e d0s;rw[List.foldl_map,show a1u 3 []=[] from by simp[a1u,a2r]];have:∀(ps:List a0o) (l:List Dt),(∀p∈ps,onS s p.1 p.2=true)→ps.foldl (fun l p=>b6o l ⟨p.1,p.2,3,id⟩) l=ps.foldl (fun l p=>if onS s p.1 p.2=true then b6o l ⟨p.1,p.2,3,id⟩ else l) l:=by
  intro ps;induction ps with
  |nil=>intros;rfl
  |cons p ps ih =>
   intro l h;rw[List.foldl_cons,List.foldl_cons,if_pos (h p List.mem_cons_self)];exact ih _ (fun q hq=>h q (List.mem_cons_of_mem _ hq))
 exact this ps [] hon
theorem b1j (x:Dt):∀l:List Dt,(b6o l x).length≤l.length+1
 |[]=>yR _
 |d::l=>by
  have:=b1j x l;rw[b6o];split
  ·simp;omega
  ·split <;> simp
theorem a5e (id:Int)(ps:List a0o):(c5e id ps).length≤ps.length:=by
 have h:∀(ps:List a0o) (l:List Dt),(ps.foldl (fun l p=>b6o l ⟨p.1,p.2,3,id⟩) l).length≤l.length+ps.length:=by
  intro ps;induction ps with
  |nil=>intro l;exact yR _
  |cons p ps ih =>
   intro l;have h1:=ih (b6o l ⟨p.1,p.2,3,id⟩);have h2:=b1j ⟨p.1,p.2,3,id⟩ l;rw[List.foldl_cons,List.length_cons];omega
 have:=h ps [];simpa [c5e] using this
theorem c0v {s:Sh}{id:Int}{ps:List a0o}(hon:∀p∈ps,onS s p.1 p.2=true):∀d∈c5e id ps,onS s d.x d.y=true:=by
 intro d hd;rw[b1i hon] at hd;have h:=b2y hd;rw[a5u] at h;rcases h with h|h
 ·exact hon _ h
 ·simp at h
end
section
open Go.RowKit Go.Shelf
attribute [local go_sem] Oper.semAt_some
attribute [local go_sem ↓] Go.wp_at_zero Go.wp_at_succ
theorem b6s (s:ByteArray)(hd:d2a s):∀n,n≤s.size→∀c∈b3s s n,c.toNat=60∨c.toNat=26∨c.toNat=1∨c.toNat=3∨c.toNat=9∨c.toNat=25∨c.toNat=17∨c.toNat=11∨c.toNat=27∨c.toNat=19∨c.toNat=10
 |0,_,c,hc=>by cases hc
 |n+1,h,c,hc=>by
  unfold b3s at hc;rcases List.mem_append.1 hc with hc|hc
  ·split at hc
   ·rw[List.mem_singleton.1 hc]
    exact .inl rfl
   ·exact b6s s hd n (by omega) c hc
  ·rw[List.mem_singleton.1 hc]
   obtain⟨h0,h1⟩:=hd n (by omega);have hg:s[n]! =s[n]'(by omega):=getElem!_pos s n (by omega);rw[hg];obtain⟨k,hk⟩:∃k,(s[n]'(by omega)).toNat=k:=⟨_,rfl⟩;rw[hk] at h0 h1 ⊢;rcases (show k=48∨k=49∨k=50∨k=51∨k=52∨k=53∨k=54∨k=55∨k=56∨k=57 from by omega) with rfl|rfl|rfl|rfl|rfl|rfl|rfl|rfl|rfl|rfl <;> decide
def a1f (n:Nat):ByteArray:=⟨(b3s (a8h n) (a8h n).size).toArray⟩
theorem a6x (n:Nat):(a1f n).size=(b3s (a8h n) (a8h n).size).length:=by
 show (b3s (a8h n) (a8h n).size).toArray.size=_;simp
theorem b1k (n k:Nat)(hk:k<(a1f n).size):((a1f n)[k]'hk).toNat=60∨((a1f n)[k]'hk).toNat=26∨((a1f n)[k]'hk).toNat=1∨((a1f n)[k]'hk).toNat=3∨((a1f n)[k]'hk).toNat=9∨((a1f n)[k]'hk).toNat=25∨((a1f n)[k]'hk).toNat=17∨((a1f n)[k]'hk).toNat=11∨((a1f n)[k]'hk).toNat=27∨((a1f n)[k]'hk).toNat=19∨((a1f n)[k]'hk).toNat=10:=by
 have hl:k<(b3s (a8h n) (a8h n).size).length:=by rw[←a6x];exact hk
 exact b6s (a8h n) (b0w n) _ (yR _) _ (List.getElem_mem hl)
theorem a7r (n:Nat)(h:n≤999):(a1f n).size≤4:=by
 have h1:=b3t (a8h n) (a8h n).size;have h2:=a3u 2 n (by omega);rw[a6x];rw[a5r] at h1 ⊢;omega
def a2s (n k q:Nat):Bool:=c9w ((a1f n)[k]!).toNat q
theorem a2k (n k:Nat)(hk:k<(a1f n).size)(q:Nat):a2s n k q=c9w ((a1f n)[k]'hk).toNat q:=by
 unfold a2s;rw[getElem!_pos (a1f n) k hk]
structure PX (s:Sh)(pl:Array Value)(w:World)(B3 B4 base:Nat)(lv:Value)(l:List a0o)(W:World):Prop where
 sheet:Blk W B3 (shC s) 28
 place:Blk W B4 pl 66
 l3:B3<base
 l4:B4<base
 lw:w.heap.size≤base
 row:W.ownsRow base 26 2 lv l.length (l.flatMap b2b)
 below:Below w.heap.size w W
 lb:base≤W.heap.size
section
variable {s:Sh}{pl:Array Value}{w W W':World}{B3 B4 base:Nat}{lv:Value}{l:List a0o}
theorem PX.grown (h:PX s pl w B3 B4 base lv l W)(hg:W.grownBy W' none):PX s pl w B3 B4 base lv l W' :=
 ⟨h.sheet.kept hg (by simp),h.place.kept hg (by simp),h.l3,h.l4,h.lw,a3b h.row hg (by simp),h.below.grown hg h.below.size (fun k e=>by cases e),Nat.le_trans h.lb hg.size⟩
theorem PX.alloc (h:PX s pl w B3 B4 base lv l W)(o:Obj):PX s pl w B3 B4 base lv l (W.alloc o):=h.grown (World.grownBy_alloc W o none)
theorem PX.up (h:PX s pl w B3 B4 base lv l W)(hb:Below W.heap.size W W'):PX s pl w B3 B4 base lv l W':=h.grown (a1o hb)
end
structure PY (s:Sh)(pl:Array Value)(w:World)(B3 B4 base:Nat)(Bd:Nat)(d:Nat→Bool)(lv:Value)(l:List a0o)(W:World):Prop where
 px:PX s pl w B3 B4 base lv l W
 box:Blk W Bd #[.bool (d 0),.bool (d 1),.bool (d 2),.bool (d 3),.bool (d 4),.bool (d 5)] 126
theorem PY.cell {s:Sh}{pl:Array Value}{w W:World}{B3 B4 base Bd:Nat}{d:Nat→Bool}{lv:Value}{l:List a0o}(h:PY s pl w B3 B4 base Bd d lv l W)(n:Nat)(hn:n<6):W.cell? ⟨Bd,n,none⟩=some (.bool (d n)):=by
 rw[h.box.cell];match n,hn with
 |0,_=>rfl
 |1,_=>rfl
 |2,_=>rfl
 |3,_=>rfl
 |4,_=>rfl
 |5,_=>rfl
structure PZ (s:Sh)(pl:Array Value)(w:World)(B3 B4 base:Nat)(lv:Value)(l:List a0o)(v:Value)(ds:List Dt)(W:World):Prop where
 px:PX s pl w B3 B4 base lv l W
 out:W.ownsRow base 54 4 v ds.length (ds.flatMap a7l)
section
variable {s:Sh}{pl:Array Value}{w W W':World}{B3 B4 base:Nat}{lv:Value}{l:List a0o}{v v':Value}{ds ds':List Dt}
theorem PZ.grown (h:PZ s pl w B3 B4 base lv l v ds W)(hg:W.grownBy W' none):PZ s pl w B3 B4 base lv l v ds W':=⟨h.px.grown hg,a3b h.out hg (by simp)⟩
theorem PZ.put (h:PZ s pl w B3 B4 base lv l v ds W)(hg:W.grownBy W' v.ownBlock)(hown:W'.ownsRow base 54 4 v' ds'.length (ds'.flatMap a7l)):PZ s pl w B3 B4 base lv l v' ds' W':=by
 have hne:∀B,B<base→v.ownBlock≠some B:=fun B hB e=>by have:=(h.out.lt _ e).1;omega
 exact⟨⟨h.px.sheet.kept hg (hne _ h.px.l3),h.px.place.kept hg (hne _ h.px.l4),h.px.l3,h.px.l4,h.px.lw,a3b h.px.row hg (b1c h.px.row h.out (by decide)),h.px.below.grown hg h.px.below.size (fun r e=>by have:=(h.out.lt _ e).1;have:=h.px.lw;omega),Nat.le_trans h.px.lb hg.size⟩,hown⟩
end
end
section
open Go.RowKit Go.Shelf
attribute [local go_sem] Oper.semAt_some
def Pow (W : World) : Prop := Lib.TabIs prog W "internal/strconv.uint64pow10" .u64 Lib.pow10Tab
theorem Pow.below {W W':World}(h:Pow W)(hb:Below W.heap.size W W'):Pow W':=by
 unfold Pow Lib.TabIs World.var? at *;obtain⟨g,hg,h2⟩:=Option.bind_eq_some_iff.1 h;rw[hg];have hlt:g<W.heap.size:=by
  cases ho:W.heap[g]? with
  |none=>rw[ho] at h2;cases h2
  |some o=>exact (Array.getElem?_eq_some_iff.1 ho).1
 show (match W'.heap[g]? with|some (.cells cs _ _)=>some cs|_=>none)=_;rw[hb.block g hlt];exact h2
def plM (cls:ByteArray):Nat:=((b5j cls.data.toList).tmod 7).toNat
theorem c9z (cls:ByteArray):plM cls<7∧(b5j cls.data.toList).tmod 7=plM cls:=by
 have h:=(c4n cls.data.toList).1;have h1:=Int.tmod_nonneg 7 h;have h2:=Int.tmod_lt_of_pos (b5j cls.data.toList) (b:=7) (by omega);unfold plM;omega
def b6t (i j:Int)(cls:ByteArray)(num:Int):List a0o:=a2j i j (a8e (plM cls)) (a2s num.toNat) (a1f num.toNat).size
def plF (s:Sh)(x y id:Int)(cls:ByteArray)(num:Int):Bool×List Dt :=
 if (ofS s x y).2.2&&decide (1≤num)&&decide (num≤999)&&(b6t (ofS s x y).1 (ofS s x y).2.1 cls num).all (fun p=>onS s p.1 p.2) then (true,c5e id (b6t (ofS s x y).1 (ofS s x y).2.1 cls num)) else (false,[])
theorem c0w {s:Sh}{x y id:Int}{cls:ByteArray}{num i j:Int}{b:Bool}(h:ofS s x y=(i,j,b))(hno:b=false∨num<1∨999<num):plF s x y id cls num=(false,[]):=by
 unfold plF;rw[h];rw[if_neg];rcases hno with rfl|h|h
 ·simp
 ·rw[decide_eq_false (show ¬1≤num by omega)];simp
 ·rw[decide_eq_false (show ¬num≤999 by omega)];simp
theorem c5f {s:Sh}{x y id:Int}{cls:ByteArray}{num i j:Int}(h:ofS s x y=(i,j,true))(h0:1≤num)(h1:num≤999):plF s x y id cls num=if (b6t i j cls num).all (fun p=>onS s p.1 p.2) then (true,c5e id (b6t i j cls num)) else (false,[]):=by
 unfold plF;rw[h];simp only[decide_eq_true h0,decide_eq_true h1,Bool.true_and]
theorem a9e (i j:Int)(r:Nat→Bool)(n:Nat)(hn:n≤999):(a2j i j r (a2s n) (a1f n).size).length≤33:=by
 have h1:=a6w i j (a2s n) (a6m i j r 9) (a1f n).size;have h2:=a8n i j r 9;have h3:=a7r n hn;unfold a2j;omega
theorem b3a (s:ByteArray):∀n,(b3s s (n+1))[0]? =some 60
 |0=>by simp[b3s]
 |n+1=>by
  have h:=b3a s n;rw[b3s,if_neg (by omega),List.getElem?_append_left (by obtain⟨h1,-⟩:=List.getElem?_eq_some_iff.1 h;exact h1)];exact h
theorem b9a (n:Nat):a2s n 0 2=true∧1≤(a1f n).size:=by
 have hl:0<(Lib.decDigits n).length:=by rw[Lib.decDigits];split <;> simp
 have hs:0<(a8h n).size:=by rw[a5r];exact hl
 obtain⟨k,hk⟩:∃k,(a8h n).size=k+1:=⟨(a8h n).size-1,by omega⟩;have hf:=b3a (a8h n) k;rw[←hk] at hf;obtain⟨h0,h1⟩:=List.getElem?_eq_some_iff.1 hf;have hz:0<(a1f n).size:=by rw[a6x];exact h0
 refine⟨?_,hz⟩;rw[a2k n 0 hz 2];have h2:(a1f n)[0]'hz=60:=h1;rw[h2];decide
theorem b9b (i j:Int)(k:Nat)(d:Nat→Bool)(l:List a0o)(h:d 2=true):a7q i j k d l 6≠[]:=by
 simp only[a7q,h,if_true];simp
theorem a9f (i j:Int)(D:Nat→Nat→Bool)(l:List a0o)(h:D 0 2=true):∀n,a3z i j D l (n+1)≠[]
 |0=>by rw[a3z];exact b9b _ _ _ _ _ h
 |n+1=>by
  have ih:=a9f i j D l h n;rw[a3z];simp only[a7q];simp[ih]
theorem b1l (i j id:Int)(r:Nat→Bool)(n:Nat):a5i i j id r (a2s n) (a1f n).size≠[]:=by
 obtain⟨h1,h2⟩:=b9a n;obtain⟨k,hk⟩:∃k,(a1f n).size=k+1:=⟨(a1f n).size-1,by omega⟩;have h3:=a9f i j (a2s n) (a6m i j r 9) h1 k;rw[a4r];unfold a2j;rw[hk];obtain⟨q,hq⟩:=List.exists_mem_of_ne_nil _ h3;intro he;have h4:=(a5u (id:=id) q (a3z i j (a2s n) (a6m i j r 9) (k+1)) []).2 (.inl hq);rw[he] at h4;simp at h4
theorem b1m (s:Sh)(id x y wt di num i j:Int)(cls name:ByteArray)(w:World)(f0:a0i s.ax)(f1:a0i s.ay)(hof:ofS s x y=(i,j,true))(hno:num<1∨999<num) :
 Calls prog 23 #[shV s,.agg (plC id x y wt di cls name),.int .i64 num] w fun e w'=>e= .returned (.tuple #[.slice none 0 0,.bool false])∧Below w.heap.size w w':=by
 obtain⟨ax,ay,st,sw,sh,sg⟩:=s;replace hof:=Lib.hid hof;have hwin:inR 1 num 999=false:=by unfold inR;rcases hno with h|h <;> simp <;> omega
 replace hwin:=Lib.hid hwin;clear hno;go_enter func23,ntmps23;go_wp2_with (first|(go_at_call 62;refine (d0r hof.out _ f0 f1).mono ?_;rintro e w'⟨rfl,hb_⟩;obtain⟨p,rfl⟩:=a0c hb_;clear hb_)|(go_at_call 59;refine (a2f hwin.out _).mono ?_;rintro e w'⟨rfl,rfl⟩)|fail);go_ret2;exact⟨rfl,(by repeat' (first|with_reducible (first|exact zR _ _|exact yR _|assumption|refine zG ?_ ?_ _|refine zA ?_ ?_ _|refine zS ?_ ?_ _|refine zD ?_|refine yA ?_|refine yG ?_|refine yS ?_|refine yD ?_)|omega|(dsimp only;omega)))⟩
theorem d0t {s:Sh}{W:World}{base:Nat}{v:Value}{id:Int}{ps:List a0o}(hs:OkS s)(hl:ps.length≤1000)(hon:∀p∈ps,onS s p.1 p.2=true)(h:W.ownsRow base 54 4 v (c5e id ps).length ((c5e id ps).flatMap a7l)):Dts W.heap.size W v (c5e id ps) :=
 a3v h (by have:=a5e id ps;omega) (fun d hd=>by
  have h9:=a8g.1 (c0v hon d hd);have w1:=hs.w1;have v1:=hs.h1;try simp only at h9
  exact⟨⟨by omega,by omega⟩,by omega,by omega⟩)
end
end Go.Proofs.YtfocdbjceedagaaGreatDoor
